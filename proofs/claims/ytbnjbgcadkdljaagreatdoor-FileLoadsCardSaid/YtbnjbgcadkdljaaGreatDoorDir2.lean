/- Layer 13: Put, the program's and the reference's. -/
import Derived.Test.YtbnjbgcadkdljaaGreatDoorMT
set_option linter.unusedVariables false
set_option linter.unusedSimpArgs false
namespace Go.Proofs.YtbnjbgcadkdljaaGreatDoor
open Go Go.RowKit
theorem kfdir2_1 : callB Tryz.prog 57 = true := by kernel_rfl
theorem kfdir2_2 : callB Tryz.prog 58 = true := by kernel_rfl
theorem kfdir2_3 : callB Tryz.prog 75 = true := by kernel_rfl
theorem kfdir2_4 : (Tryz.prog.info? 5).map (fun i => (i.size, i.zero.map Value.cells)) = some (1, some (List.toArray [(.int .u8 0)])) := by kernel_rfl
theorem kfdir2_5 : callB Tryz.prog 76 = true := by kernel_rfl
theorem kfdir2_6 : elB Tryz.prog 42 2 = true := by kernel_rfl
theorem kfdir2_7 : aggB Tryz.prog 50 2 = true := by kernel_rfl
theorem kfdir2_8 : (Tryz.prog.info? 50).bind (fun i => i.zero.map Value.cells) = some (List.toArray [(.int .i64 0), (.int .i64 0)]) := by kernel_rfl
theorem kfdir2_9 : szB Tryz.prog 50 2 = true := by kernel_rfl
theorem kfdir2_10 : fldB Tryz.prog 50 0 0 = true := by kernel_rfl
theorem kfdir2_11 : oneB Tryz.prog 2 = true := by kernel_rfl
theorem kfdir2_12 : fldB Tryz.prog 50 1 1 = true := by kernel_rfl
theorem lt2 {x : Int} (h : 1 ≤ x ∧ x ≤ 1024) : (x - 1) / 256 ^ 2 = 0 := dig_lt (by rw [p2]; omega)
theorem lt4 {x : Int} (h : 0 ≤ x ∧ x ≤ 4294967295) : x / 256 ^ 4 = 0 := dig_lt (by rw [p4]; omega)
theorem entB_step {a : Int} {zs : List Int} {i : Nat} (htk : zs.take (i + 1) = zs.take i ++ [nth zs i]) (hd : List Int) : hd ++ entB a (zs.take i) ++ dgs (a + sumL (zs.take i)) 4 ++ dgs (nth zs i) 4 = hd ++ entB a (zs.take (i + 1)) := by
  rw [htk, entB_snoc]; simp only [List.append_assoc]

set_option maxRecDepth 100000 in
theorem dirPut_bad (a h : Int) (A : Option Addr) (m cap : Nat) (zs : List Int) (w : World) (hz : Rd w A (vi .i64 zs)) (hl : zs.length = m) (hm : m ≤ 5000) (ha : -9223372036854775808 ≤ a ∧ a ≤ 9223372036854775807) (hh : -9223372036854775808 ≤ h ∧ h ≤ 9223372036854775807) (hb : badS a h) :
    Ret Tryz.prog 32 [.int .i64 a, .int .i64 h, .slice A m cap] w (DirPutR a h zs w) := by
  refine ret_enter Tryz.func32 rfl rfl rfl ?_
  have H0 := HS.start w
  refine cw_seq ?_
  refine cw_reg ?_
  refine ry (y_asg rfl rfl) rfl rfl ?_
  refine ry (y_asg rfl rfl) rfl rfl ?_
  refine reg_nil ?_
  refine fn_next ?_
  refine cw_seq ?_
  refine cw_reg ?_
  refine ry (y_mov rfl rfl) rfl rfl ?_
  refine ry (y_mov rfl rfl) rfl rfl ?_
  refine reg_op (op_call (Tiles_no a h _ ha hh hb) rfl kfdir2_1 ⟨rfl, rfl, trivial⟩) rfl rfl ?_
  rintro _ w2 ⟨rfl, e1⟩
  have H3 := H0.ext e1
  refine ry (y_mov rfl rfl) rfl rfl ?_
  refine ry (y_ext rfl rfl rfl) rfl rfl ?_
  refine ry (y_ext rfl rfl rfl) rfl rfl ?_
  refine ry (y_asg rfl rfl) rfl rfl ?_
  refine ry (y_asg rfl rfl) rfl rfl ?_
  refine reg_nil ?_
  refine fn_next ?_
  refine cw_seq ?_
  refine cw_seq ?_
  refine cw_reg ?_
  refine ry (y_mov rfl rfl) rfl rfl ?_
  refine ry (y_neq rfl rfl rfl) rfl rfl ?_
  refine reg_nil ?_
  refine fn_next ?_
  refine cw_condd rfl (fun h4 => ?_) (fun h4 => ?_)
  · skip
    refine cw_seq ?_
    refine cw_reg ?_
    refine ry (y_mov rfl rfl) rfl rfl ?_
    refine ry (y_asg rfl rfl) rfl rfl ?_
    refine ry (y_asg rfl rfl) rfl rfl ?_
    refine reg_nil ?_
    refine fn_next ?_
    refine cw_ret ?_
    refine fn_then_ret ?_
    refine fn_retn (vs := [_, _]) rfl ⟨rfl, rfl, trivial⟩ rfl ?_
    unfold DirPutR; rw [dirS_bad hb]
    exact ⟨none, 0, rfl, (H3.nilrow _ _).pick [0] rfl (by decide)⟩
  · exact absurd (by decide) h4

set_option maxRecDepth 100000 in
theorem dirPut_cnt (a h : Int) (A : Option Addr) (m cap : Nat) (zs : List Int) (w : World) (hz : Rd w A (vi .i64 zs)) (hl : zs.length = m) (hm : m ≤ 5000) (hb : ¬ badS a h) (hn : ¬ (zs.length : Int) = tilN a h) :
    Ret Tryz.prog 32 [.int .i64 a, .int .i64 h, .slice A m cap] w (DirPutR a h zs w) := by
  have htb := tilN_bd hb
  have hb' := hb
  unfold badS at hb'
  skip
  refine ret_enter Tryz.func32 rfl rfl rfl ?_
  have H0 := HS.start w
  refine cw_seq ?_
  refine cw_reg ?_
  refine ry (y_asg rfl rfl) rfl rfl ?_
  refine ry (y_asg rfl rfl) rfl rfl ?_
  refine reg_nil ?_
  refine fn_next ?_
  refine cw_seq ?_
  refine cw_reg ?_
  refine ry (y_mov rfl rfl) rfl rfl ?_
  refine ry (y_mov rfl rfl) rfl rfl ?_
  refine reg_op (op_call (Tiles_ok a h _ hb) rfl kfdir2_1 ⟨rfl, rfl, trivial⟩) rfl rfl ?_
  rintro _ w2 ⟨rfl, e1⟩
  have H3 := H0.ext e1
  refine ry (y_mov rfl rfl) rfl rfl ?_
  refine ry (y_ext rfl rfl rfl) rfl rfl ?_
  refine ry (y_ext rfl rfl rfl) rfl rfl ?_
  refine ry (y_asg rfl rfl) rfl rfl ?_
  refine ry (y_asg rfl rfl) rfl rfl ?_
  refine reg_nil ?_
  refine fn_next ?_
  refine cw_seq ?_
  refine cw_seq ?_
  refine cw_reg ?_
  refine ry (y_mov rfl rfl) rfl rfl ?_
  refine ry (y_neq rfl rfl rfl) rfl rfl ?_
  refine reg_nil ?_
  refine fn_next ?_
  refine cw_condd rfl (fun h4 => ?_) (fun h4 => ?_)
  · exact absurd rfl h4
  · skip
    refine cw_skip ?_
    refine fn_next ?_
    refine cw_seq ?_
    refine cw_seq ?_
    refine cw_reg ?_
    refine ry (y_mov rfl rfl) rfl rfl ?_
    refine ry (y_len rfl Tryz.underlying24 rfl) rfl rfl ?_
    refine ry (y_mov rfl rfl) rfl rfl ?_
    refine ry (y_neq rfl rfl rfl) rfl rfl ?_
    refine reg_nil ?_
    refine fn_next ?_
    refine cw_condd rfl (fun h5 => ?_) (fun h5 => ?_)
    · skip
      refine cw_seq ?_
      refine cw_reg ?_
      refine ry (y_asg rfl rfl) rfl rfl ?_
      refine ry (y_asg rfl rfl) rfl rfl ?_
      refine reg_nil ?_
      refine fn_next ?_
      refine cw_ret ?_
      refine fn_then_ret ?_
      refine fn_retn (vs := [_, _]) rfl ⟨rfl, rfl, trivial⟩ rfl ?_
      unfold DirPutR; rw [dirS_cnt hb hn]
      exact ⟨none, 0, rfl, (H3.nilrow _ _).pick [0] rfl (by decide)⟩
    · exfalso; omega

set_option maxRecDepth 100000 in
theorem dirPut_val (a h : Int) (A : Option Addr) (m cap : Nat) (zs : List Int) (w : World) (hz : Rd w A (vi .i64 zs)) (hl : zs.length = m) (hm : m ≤ 5000) (hb : ¬ badS a h) (hn : (zs.length : Int) = tilN a h) (hno : ¬ okL zs) :
    Ret Tryz.prog 32 [.int .i64 a, .int .i64 h, .slice A m cap] w (DirPutR a h zs w) := by
  have htb := tilN_bd hb
  have hb' := hb
  unfold badS at hb'
  skip
  refine ret_enter Tryz.func32 rfl rfl rfl ?_
  have H0 := HS.start w
  refine cw_seq ?_
  refine cw_reg ?_
  refine ry (y_asg rfl rfl) rfl rfl ?_
  refine ry (y_asg rfl rfl) rfl rfl ?_
  refine reg_nil ?_
  refine fn_next ?_
  refine cw_seq ?_
  refine cw_reg ?_
  refine ry (y_mov rfl rfl) rfl rfl ?_
  refine ry (y_mov rfl rfl) rfl rfl ?_
  refine reg_op (op_call (Tiles_ok a h _ hb) rfl kfdir2_1 ⟨rfl, rfl, trivial⟩) rfl rfl ?_
  rintro _ w2 ⟨rfl, e1⟩
  have H3 := H0.ext e1
  refine ry (y_mov rfl rfl) rfl rfl ?_
  refine ry (y_ext rfl rfl rfl) rfl rfl ?_
  refine ry (y_ext rfl rfl rfl) rfl rfl ?_
  refine ry (y_asg rfl rfl) rfl rfl ?_
  refine ry (y_asg rfl rfl) rfl rfl ?_
  refine reg_nil ?_
  refine fn_next ?_
  refine cw_seq ?_
  refine cw_seq ?_
  refine cw_reg ?_
  refine ry (y_mov rfl rfl) rfl rfl ?_
  refine ry (y_neq rfl rfl rfl) rfl rfl ?_
  refine reg_nil ?_
  refine fn_next ?_
  refine cw_condd rfl (fun h4 => ?_) (fun h4 => ?_)
  · exact absurd rfl h4
  · skip
    refine cw_skip ?_
    refine fn_next ?_
    refine cw_seq ?_
    refine cw_seq ?_
    refine cw_reg ?_
    refine ry (y_mov rfl rfl) rfl rfl ?_
    refine ry (y_len rfl Tryz.underlying24 rfl) rfl rfl ?_
    refine ry (y_mov rfl rfl) rfl rfl ?_
    refine ry (y_neq rfl rfl rfl) rfl rfl ?_
    refine reg_nil ?_
    refine fn_next ?_
    refine cw_condd rfl (fun h5 => ?_) (fun h5 => ?_)
    · exfalso; omega
    · skip
      refine cw_skip ?_
      refine fn_next ?_
      refine cw_seq ?_
      refine cw_reg ?_
      refine ry (y_mov rfl rfl) rfl rfl ?_
      refine ry (y_mov rfl rfl) rfl rfl ?_
      refine reg_op (op_call (Size_ok a h _ hb) rfl kfdir2_2 ⟨rfl, rfl, trivial⟩) rfl rfl ?_
      rintro _ w7 ⟨rfl, e6⟩
      have H8 := H3.ext e6
      refine ry (y_mov rfl rfl) rfl rfl ?_
      refine ry (y_ext rfl rfl rfl) rfl rfl ?_
      refine ry (y_ext rfl rfl rfl) rfl rfl ?_
      refine ry (y_asg rfl rfl) rfl rfl ?_
      refine ry (y_asg rfl rfl) rfl rfl ?_
      refine reg_nil ?_
      refine fn_next ?_
      refine cw_seq ?_
      refine cw_reg ?_
      refine ry (y_mov rfl rfl) rfl rfl ?_
      refine ry (y_mov rfl rfl) rfl rfl ?_
      refine reg_op (op_call (entries_no (13 + 8 * tilN a h) A m cap zs _ (hz.below H8.base) hl hm hno (by omega)) rfl kfdir2_3 ⟨rfl, rfl, trivial⟩) rfl rfl ?_
      rintro _ w10 ⟨rfl, e9⟩
      have H11 := H8.ext e9
      refine ry (y_mov rfl rfl) rfl rfl ?_
      refine ry (y_ext rfl rfl rfl) rfl rfl ?_
      refine ry (y_ext rfl rfl rfl) rfl rfl ?_
      refine ry (y_asg rfl rfl) rfl rfl ?_
      refine ry (y_asg rfl rfl) rfl rfl ?_
      refine reg_nil ?_
      refine fn_next ?_
      refine cw_seq ?_
      refine cw_seq ?_
      refine cw_reg ?_
      refine ry (y_mov rfl rfl) rfl rfl ?_
      refine ry (y_not rfl rfl) rfl rfl ?_
      refine reg_nil ?_
      refine fn_next ?_
      refine cw_condt rfl ?_
      refine cw_seq ?_
      refine cw_reg ?_
      refine ry (y_asg rfl rfl) rfl rfl ?_
      refine ry (y_asg rfl rfl) rfl rfl ?_
      refine reg_nil ?_
      refine fn_next ?_
      refine cw_ret ?_
      refine fn_then_ret ?_
      refine fn_retn (vs := [_, _]) rfl ⟨rfl, rfl, trivial⟩ rfl ?_
      unfold DirPutR; rw [dirS_val hb hn hno]
      exact ⟨none, 0, rfl, (H11.nilrow _ _).pick [0] rfl (by decide)⟩

set_option maxRecDepth 100000 in
theorem dirPut_ok (a h : Int) (A : Option Addr) (m cap : Nat) (zs : List Int) (w : World) (hz : Rd w A (vi .i64 zs)) (hl : zs.length = m) (hm : m ≤ 5000) (hb : ¬ badS a h) (hn : (zs.length : Int) = tilN a h) (hok : okL zs) :
    Ret Tryz.prog 32 [.int .i64 a, .int .i64 h, .slice A m cap] w (DirPutR a h zs w) := by
  have htb := tilN_bd hb
  have hb' := hb
  unfold badS at hb'
  skip
  refine ret_enter Tryz.func32 rfl rfl rfl ?_
  have H0 := HS.start w
  refine cw_seq ?_
  refine cw_reg ?_
  refine ry (y_asg rfl rfl) rfl rfl ?_
  refine ry (y_asg rfl rfl) rfl rfl ?_
  refine reg_nil ?_
  refine fn_next ?_
  refine cw_seq ?_
  refine cw_reg ?_
  refine ry (y_mov rfl rfl) rfl rfl ?_
  refine ry (y_mov rfl rfl) rfl rfl ?_
  refine reg_op (op_call (Tiles_ok a h _ hb) rfl kfdir2_1 ⟨rfl, rfl, trivial⟩) rfl rfl ?_
  rintro _ w2 ⟨rfl, e1⟩
  have H3 := H0.ext e1
  refine ry (y_mov rfl rfl) rfl rfl ?_
  refine ry (y_ext rfl rfl rfl) rfl rfl ?_
  refine ry (y_ext rfl rfl rfl) rfl rfl ?_
  refine ry (y_asg rfl rfl) rfl rfl ?_
  refine ry (y_asg rfl rfl) rfl rfl ?_
  refine reg_nil ?_
  refine fn_next ?_
  refine cw_seq ?_
  refine cw_seq ?_
  refine cw_reg ?_
  refine ry (y_mov rfl rfl) rfl rfl ?_
  refine ry (y_neq rfl rfl rfl) rfl rfl ?_
  refine reg_nil ?_
  refine fn_next ?_
  refine cw_condd rfl (fun h4 => ?_) (fun h4 => ?_)
  · exact absurd rfl h4
  · skip
    refine cw_skip ?_
    refine fn_next ?_
    refine cw_seq ?_
    refine cw_seq ?_
    refine cw_reg ?_
    refine ry (y_mov rfl rfl) rfl rfl ?_
    refine ry (y_len rfl Tryz.underlying24 rfl) rfl rfl ?_
    refine ry (y_mov rfl rfl) rfl rfl ?_
    refine ry (y_neq rfl rfl rfl) rfl rfl ?_
    refine reg_nil ?_
    refine fn_next ?_
    refine cw_condd rfl (fun h5 => ?_) (fun h5 => ?_)
    · exfalso; omega
    · skip
      refine cw_skip ?_
      refine fn_next ?_
      refine cw_seq ?_
      refine cw_reg ?_
      refine ry (y_mov rfl rfl) rfl rfl ?_
      refine ry (y_mov rfl rfl) rfl rfl ?_
      refine reg_op (op_call (Size_ok a h _ hb) rfl kfdir2_2 ⟨rfl, rfl, trivial⟩) rfl rfl ?_
      rintro _ w7 ⟨rfl, e6⟩
      have H8 := H3.ext e6
      refine ry (y_mov rfl rfl) rfl rfl ?_
      refine ry (y_ext rfl rfl rfl) rfl rfl ?_
      refine ry (y_ext rfl rfl rfl) rfl rfl ?_
      refine ry (y_asg rfl rfl) rfl rfl ?_
      refine ry (y_asg rfl rfl) rfl rfl ?_
      refine reg_nil ?_
      refine fn_next ?_
      refine cw_seq ?_
      refine cw_reg ?_
      refine ry (y_mov rfl rfl) rfl rfl ?_
      refine ry (y_mov rfl rfl) rfl rfl ?_
      refine reg_op (op_call (entries_ok (13 + 8 * tilN a h) A m cap zs _ (hz.below H8.base) hl hm hok (by omega)) rfl kfdir2_3 ⟨rfl, rfl, trivial⟩) rfl rfl ?_
      rintro _ w10 ⟨A12, c13, rfl, k9⟩
      have H11 := H8.call k9
      refine ry (y_mov rfl rfl) rfl rfl ?_
      refine ry (y_ext rfl rfl rfl) rfl rfl ?_
      refine ry (y_ext rfl rfl rfl) rfl rfl ?_
      refine ry (y_asg rfl rfl) rfl rfl ?_
      refine ry (y_asg rfl rfl) rfl rfl ?_
      refine reg_nil ?_
      refine fn_next ?_
      refine cw_seq ?_
      refine cw_seq ?_
      refine cw_reg ?_
      refine ry (y_mov rfl rfl) rfl rfl ?_
      refine ry (y_not rfl rfl) rfl rfl ?_
      refine reg_nil ?_
      refine fn_next ?_
      refine cw_condf rfl ?_
      refine cw_skip ?_
      refine fn_next ?_
      refine cw_seq ?_
      refine cw_reg ?_
      refine reg_op (op_lit (parts := [(0, _), (1, _), (2, _), (3, _), (4, _)]) (vs := [(0, _), (1, _), (2, _), (3, _), (4, _)]) (cs := [.int _ _, .int _ _, .int _ _, .int _ _, .int _ _]) H11 rfl Tryz.underlying22 kfdir2_4 rfl ⟨rfl, rfl, rfl, rfl, rfl, trivial⟩ rfl rfl) rfl rfl ?_
      rintro _ w15 ⟨b14, rfl, H16⟩
      have H17 := H16.asrow (m := 5) (size := 1) rfl (by decide)
      refine reg_op (op_cvsl (i := 0) H17 rfl Tryz.underlying22 Tryz.underlying5 rfl rfl rfl rfl) rfl rfl ?_
      rintro _ w18 ⟨rfl, H19⟩
      refine ry (y_mov rfl rfl) rfl rfl ?_
      refine ry (y_sub rfl rfl rfl (wi (by omega))) rfl rfl ?_
      refine reg_op (op_call (must_any _ 5 _ [72, 65, 67, 72, 1] 2 (a - 1) _ (H19.rdo (i := 0) rfl) (rfl) (by omega) (by omega) (by omega) (by omega) (lt2 (by omega))) rfl kfdir2_5 ⟨rfl, rfl, rfl, trivial⟩) rfl rfl ?_
      rintro _ w21 ⟨A23, c24, rfl, k20⟩
      have H22 := H19.call k20
      refine ry (y_mov rfl rfl) rfl rfl ?_
      refine ry (y_sub rfl rfl rfl (wi (by omega))) rfl rfl ?_
      refine reg_op (op_call (must_any _ (5 + 2) _ ([72, 65, 67, 72, 1] ++ dgs (a - 1) 2) 2 (h - 1) _ (H22.rd (i := 0) rfl) (by simp only [List.length_append, dgs_len, headB_len, entB_len, List.length_cons, List.length_nil] <;> omega) (by omega) (by omega) (by omega) (by omega) (lt2 (by omega))) rfl kfdir2_5 ⟨rfl, rfl, rfl, trivial⟩) rfl rfl ?_
      rintro _ w26 ⟨A28, c29, rfl, k25⟩
      have H27 := H22.call k25
      refine ry (y_mov rfl rfl) rfl rfl ?_
      refine reg_op (op_call (must_any _ (5 + 2 + 2) _ ([72, 65, 67, 72, 1] ++ dgs (a - 1) 2 ++ dgs (h - 1) 2) 4 (tilN a h) _ (H27.rd (i := 0) rfl) (by simp only [List.length_append, dgs_len, headB_len, entB_len, List.length_cons, List.length_nil] <;> omega) (by omega) (by omega) (by omega) (by omega) (lt4 (by omega))) rfl kfdir2_5 ⟨rfl, rfl, rfl, trivial⟩) rfl rfl ?_
      rintro _ w31 ⟨A33, c34, rfl, k30⟩
      have H32 := H27.call k30
      refine ry (y_asg rfl rfl) rfl rfl ?_
      refine reg_nil ?_
      refine fn_next ?_
      refine cw_seq ?_
      refine cw_seq ?_
      refine cw_reg ?_
      refine ry (y_mov rfl rfl) rfl rfl ?_
      refine ry (y_len rfl Tryz.underlying42 rfl) rfl rfl ?_
      refine ry (y_mov rfl rfl) rfl rfl ?_
      refine reg_nil ?_
      refine fn_next ?_
      refine cw_block ?_
      have hh0 : headB a h ++ entB (13 + 8 * tilN a h) (zs.take 0) = [72, 65, 67, 72, 1] ++ dgs (a - 1) 2 ++ dgs (h - 1) 2 ++ dgs (tilN a h) 4 := by simp [headB, entB]
      rw [← hh0] at H32
      refine cw_loopJ [14, 16, 56, 57, 58, 59, 60, 61, 62, 63, 64, 65, 66, 67] (fun M wl ml => ∃ (i : Nat) (A' : Option Addr) (cap' : Nat), M = [(14, .slice A' (13 + i * 8) cap'), (56, .int .i64 (i : Int))] ∧ HS w wl [.row A' (13 + i * 8) cap' (vi .u8 (headB a h ++ entB (13 + 8 * tilN a h) (zs.take i))) 5 1, .row A12 m c13 (vi .i64 (entF (13 + 8 * tilN a h) zs)) 50 2] ∧ (i ≤ m) ∧ ml = m - i) ⟨0, _, _, rfl, (H32.pick [0, 4] rfl (by decide)), Nat.zero_le _, rfl⟩ ⟨rfl, rfl, trivial⟩ ?_
      rintro M w35 m37 ⟨i, A', cap', rfl, H36, hp0, rfl⟩
      refine cw_seq ?_
      refine cw_reg ?_
      refine ry (y_lss rfl rfl rfl) rfl rfl ?_
      refine reg_nil ?_
      refine fn_next ?_
      refine cw_seq ?_
      refine cw_condd rfl (fun h38 => ?_) (fun h38 => ?_)
      · skip
        have hil : i < zs.length := by omega
        have hge := ent_get hil (13 + 8 * tilN a h)
        have hpa := ent_part hil (13 + 8 * tilN a h)
        have htk := take_succ_nth hil
        have htl : (zs.take i).length = i := by rw [List.length_take]; omega
        have hx := okL_at hok hil
        have hsb := sumL_bd (okL_take hok i)
        refine cw_skip ?_
        refine fn_next ?_
        refine cw_seq ?_
        refine cw_block ?_
        refine cw_seq ?_
        refine cw_reg ?_
        refine ry (y_iar (H36.rd (i := 1) rfl) rfl rfl rfl kfdir2_6 (rfl) (by omega) (rfl) (hge)) rfl rfl ?_
        refine ry (y_ldra (cs := [_, _]) (H36.rd (i := 1) rfl) rfl rfl kfdir2_7 rfl (by decide) (hpa)) rfl rfl ?_
        refine reg_op (op_alloc H36 rfl kfdir2_8) rfl rfl ?_
        rintro _ w40 ⟨b39, rfl, H41⟩
        refine reg_op (op_st (i := 0) (vs := [.int _ _, .int _ _]) H41 rfl rfl rfl rfl rfl kfdir2_9 rfl rfl rfl) rfl rfl ?_
        rintro _ w42 H43
        refine reg_nil ?_
        refine fn_next ?_
        refine cw_draw H43 [0, 1, 2, 4, 5] [3, 6, 7] (fun X HX => HX) (by kernel_rfl) (by kernel_rfl) (by rfl) ?_
        simp only [pick, List.getElem?_cons_succ, List.getElem?_cons_zero]
        refine hk_y (fun Y HY => y_mov rfl rfl) rfl rfl ?_
        refine hk_y (fun Y HY => y_fa rfl rfl kfdir2_10 rfl) rfl rfl ?_
        refine hk_y (fun Y HY => y_ld rfl rfl kfdir2_11 (HY.cell (i := 0) rfl rfl)) rfl rfl ?_
        refine hk_y (fun Y HY => y_fa rfl rfl kfdir2_12 rfl) rfl rfl ?_
        refine hk_y (fun Y HY => y_ld rfl rfl kfdir2_11 (HY.cell (i := 0) rfl rfl)) rfl rfl ?_
        refine hk_nil ?_
        intro w44 H45
        refine tv_op (op_call (must_any _ (13 + i * 8) _ (headB a h ++ entB (13 + 8 * tilN a h) (zs.take i)) 4 (13 + 8 * tilN a h + sumL (zs.take i)) _ (H45.rd (i := 1) rfl) (by simp only [List.length_append, dgs_len, headB_len, entB_len, List.length_cons, List.length_nil] <;> omega) (by omega) (by omega) (by omega) (by omega) (lt4 (by omega))) rfl kfdir2_5 ⟨rfl, rfl, rfl, trivial⟩) rfl rfl ?_
        rintro _ w47 ⟨A49, c50, rfl, k46⟩
        have H48 := H45.call k46
        refine ⟨(H48.pick [1, 2, 3] rfl (by decide)), fun w51 e53 => ?_⟩
        have H52 := H48.ext e53
        refine tv_op (op_call (must_any _ (13 + i * 8 + 4) _ (headB a h ++ entB (13 + 8 * tilN a h) (zs.take i) ++ dgs (13 + 8 * tilN a h + sumL (zs.take i)) 4) 4 (nth zs i) _ (H52.rd (i := 0) rfl) (by simp only [List.length_append, dgs_len, headB_len, entB_len, List.length_cons, List.length_nil] <;> omega) (by omega) (by omega) (by omega) (by omega) (lt4 (by omega))) rfl kfdir2_5 ⟨rfl, rfl, rfl, trivial⟩) rfl rfl ?_
        rintro _ w55 ⟨A57, c58, rfl, k54⟩
        have H56 := H52.call k54
        refine ⟨(H56.pick [2, 3, 4] rfl (by decide)), fun w59 e61 => ?_⟩
        have H60 := H56.ext e61
        refine tv_op (Yd.op (y_asg rfl rfl)) rfl rfl ?_
        rintro _ _ ⟨rfl, rfl⟩
        refine ⟨(H60.pick [2, 3, 4] rfl (by decide)), fun w62 e64 => ?_⟩
        have H63 := H60.ext e64
        refine tv_nil ?_
        refine fn_block ?_
        refine fn_next ?_
        refine cw_reg ?_
        refine ry (y_add rfl rfl rfl (wi (by omega))) rfl rfl ?_
        refine ry (y_mov rfl rfl) rfl rfl ?_
        refine reg_nil ?_
        rw [entB_step htk, show 13 + i * 8 + 4 + 4 = 13 + (i + 1) * 8 by omega] at H63
        refine fn_roundJ ⟨i + 1, _, _, rfl, (H63.pick [0, 4] rfl (by decide)), by omega, rfl⟩ ⟨by rw [show 13 + (i + 1) * 8 = 13 + i * 8 + 4 + 4 by omega]; rfl, rfl, trivial⟩ (by omega) (by repeat (first | exact kp_refl | refine kp_app rfl rfl ?_ | refine kp_cons rfl ?_)) rfl
      · skip
        obtain rfl : i = m := by omega
        have hie : zs.take i = zs := List.take_of_length_le (by omega)
        refine cw_exit ?_
        refine fn_then_exit (fn_then_exit (fn_block_exit ?_))
        refine fn_next ?_
        refine cw_seq ?_
        refine cw_reg ?_
        refine ry (y_mov rfl rfl) rfl rfl ?_
        refine ry (y_asg rfl rfl) rfl rfl ?_
        refine ry (y_asg rfl rfl) rfl rfl ?_
        refine reg_nil ?_
        refine fn_next ?_
        refine cw_ret ?_
        refine fn_retn (vs := [_, _]) rfl ⟨rfl, rfl, trivial⟩ rfl ?_
        rw [hie] at H36
        unfold DirPutR; rw [dirS_ok hb hn hok]
        have hle : (headB a h ++ entB (13 + 8 * tilN a h) zs).length = 13 + i * 8 := by rw [List.length_append, headB_len, entB_len]; omega
        simp only [hle]
        exact ⟨_, _, rfl, H36.pick [0] rfl (by decide)⟩

theorem dirPut_any (a h : Int) (A : Option Addr) (m cap : Nat) (zs : List Int) (w : World) (hz : Rd w A (vi .i64 zs)) (hl : zs.length = m) (hm : m ≤ 5000) (ha : -9223372036854775808 ≤ a ∧ a ≤ 9223372036854775807) (hh : -9223372036854775808 ≤ h ∧ h ≤ 9223372036854775807) : Ret Tryz.prog 32 [.int .i64 a, .int .i64 h, .slice A m cap] w (DirPutR a h zs w) := by
  by_cases hb : badS a h
  · exact dirPut_bad a h A m cap zs w hz hl hm ha hh hb
  · by_cases hn : (zs.length : Int) = tilN a h
    · by_cases hok : okL zs
      · exact dirPut_ok a h A m cap zs w hz hl hm hb hn hok
      · exact dirPut_val a h A m cap zs w hz hl hm hb hn hok
    · exact dirPut_cnt a h A m cap zs w hz hl hm hb hn

end Go.Proofs.YtbnjbgcadkdljaaGreatDoor
