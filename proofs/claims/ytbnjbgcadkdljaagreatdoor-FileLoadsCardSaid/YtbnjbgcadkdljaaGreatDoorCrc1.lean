/- Layer 3: sums of bytes; byte slices put together. -/
import Derived.Test.YtbnjbgcadkdljaaGreatDoorK18
import Derived.Test.YtbnjbgcadkdljaaGreatDoorLeb1
set_option linter.unusedVariables false
set_option linter.unusedSimpArgs false
namespace Go.Proofs.YtbnjbgcadkdljaaGreatDoor
open Go Go.RowKit
theorem kfcrc1_1 : elB Tryz.prog 22 1 = true := by kernel_rfl
theorem kfcrc1_2 : (Tryz.prog.info? 5).map (fun i => (i.zero.map (·.cells.toList), i.size, i.bytes)) = some (some [(.int .u8 0)], 1, 1) := by kernel_rfl
theorem kfcrc1_3 : elB Tryz.prog 69 1 = true := by kernel_rfl
theorem kfcrc1_4 : oneB Tryz.prog 22 = true := by kernel_rfl
theorem kfcrc1_5 : callB Tryz.prog 77 = true := by kernel_rfl
theorem kfcrc1_6 : (Tryz.prog.info? 5).map (fun i => (i.size, i.zero.map Value.cells)) = some (1, some (List.toArray [(.int .u8 0)])) := by kernel_rfl
theorem kfcrc1_7 : oneB Tryz.prog 5 = true := by kernel_rfl
theorem kfcrc1_8 : elA Tryz.prog 145 16 1 = true := by kernel_rfl
theorem kfcrc1_9 : oneB Tryz.prog 83 = true := by kernel_rfl
theorem kfcrc1_10 : callB Tryz.prog 90 = true := by kernel_rfl
theorem kfcrc1_11 : callB Tryz.prog 53 = true := by kernel_rfl
theorem kfcrc1_12 : callB Tryz.prog 52 = true := by kernel_rfl
theorem kfcrc1_13 : (Tryz.prog.info? 22).map (fun i => (i.size, i.zero.map Value.cells)) = some (1, some (List.toArray [(.slice none 0 0)])) := by kernel_rfl
theorem kfcrc1_14 : callB Tryz.prog 34 = true := by kernel_rfl
structure Bp where
  A : Option Addr
  c : Nat
  bs : List Int
def Bp.v (p : Bp) : Value := .slice p.A p.bs.length p.c
def Bp.ob (p : Bp) : List Ob := [.row p.A p.bs.length p.c (vi .u8 p.bs) 5 1]
def flatP (ps : List Bp) : List Int := ps.flatMap (·.bs)
theorem flatP_step {ps : List Bp} {i : Nat} {p : Bp} (h : ps[i]? = some p) : flatP (ps.take (i + 1)) = flatP (ps.take i) ++ p.bs := by
  obtain ⟨hl, rfl⟩ := List.getElem?_eq_some_iff.1 h
  unfold flatP
  rw [List.take_succ_eq_append_getElem hl, List.flatMap_append]; simp
theorem flatP_le (ps : List Bp) (i : Nat) : (flatP (ps.take i)).length ≤ (flatP ps).length := by
  have : flatP ps = flatP (ps.take i) ++ flatP (ps.drop i) := by unfold flatP; rw [← List.flatMap_append, List.take_append_drop]
  rw [this, List.length_append]; omega
theorem bp_get {ps : List Bp} {i : Nat} (h : i < ps.length) : ∃ p, ps[i]? = some p ∧ p ∈ ps ∧ (ps.map Bp.v)[i]? = some (.slice p.A p.bs.length p.c) :=
  ⟨ps[i], List.getElem?_eq_getElem h, List.getElem_mem h, by rw [List.getElem?_map, List.getElem?_eq_getElem h]; rfl⟩

set_option maxRecDepth 100000 in
theorem growB (m : Nat) (w : World) (hm : m ≤ 100000000) :
    Ret Tryz.prog 77 [.slice none 0 0, .int .i64 (m : Int)] w (fun v w' => ∃ A c, v = .slice A 0 c ∧ HS w w' [.row A 0 c [] 5 1]) := by
 refine ret_enter Tryz.func77 rfl rfl rfl ?_
 have H0 := HS.start w
 refine cw_seq ?_
 refine cw_reg ?_
 refine ry (y_asg rfl rfl) rfl rfl ?_
 refine reg_nil ?_
 refine fn_next ?_
 refine cw_seq ?_
 refine cw_seq ?_
 refine cw_reg ?_
 refine ry (y_mov rfl rfl) rfl rfl ?_
 refine ry (y_lss rfl rfl rfl) rfl rfl ?_
 refine reg_nil ?_
 refine fn_next ?_
 refine cw_condd rfl (fun h1 => ?_) (fun h1 => ?_)
 · exfalso; omega
 ·skip
  refine cw_skip ?_
  refine fn_next ?_
  refine cw_seq ?_
  refine cw_seq ?_
  refine cw_reg ?_
  refine ry (y_mov rfl rfl) rfl rfl ?_
  refine ry (y_mov rfl rfl) rfl rfl ?_
  refine ry (y_cap rfl Tryz.underlying22 rfl) rfl rfl ?_
  refine ry (y_mov rfl rfl) rfl rfl ?_
  refine ry (y_len rfl Tryz.underlying22 rfl) rfl rfl ?_
  refine ry (y_sub rfl rfl rfl (wi (by omega))) rfl rfl ?_
  refine ry (y_sub rfl rfl rfl (wi (by omega))) rfl rfl ?_
  refine ry (y_asg rfl rfl) rfl rfl ?_
  refine reg_nil ?_
  refine fn_next ?_
  refine cw_seq ?_
  refine cw_reg ?_
  refine ry (y_mov rfl rfl) rfl rfl ?_
  refine ry (y_gtr rfl rfl rfl) rfl rfl ?_
  refine reg_nil ?_
  refine fn_next ?_
  refine cw_condd rfl (fun h2 => ?_) (fun h2 => ?_)
  ·skip
   refine cw_reg ?_
   have H5 := H0.nilrow 5 1
   refine ry (y_mov rfl rfl) rfl rfl ?_
   refine ry (y_mov rfl rfl) rfl rfl ?_
   refine ry (y_cap rfl Tryz.underlying22 rfl) rfl rfl ?_
   refine ry (y_sh rfl rfl rfl kfcrc1_1 (rfl) (Nat.le_refl _)) rfl rfl ?_
   refine ry (y_mov rfl rfl) rfl rfl ?_
   refine reg_op (op_appz (i := 0) m H5 rfl rfl rfl (by omega) (by omega) rfl rfl Tryz.underlying22 Tryz.underlying3 kfcrc1_2 (by unfold maxLen; omega) (by omega)) rfl rfl ?_
   rintro _ w6 ⟨A6, c6, rfl, H6⟩
   have H7 := H6.clip (i := 0) (n' := 0) (cap' := c6) rfl (Nat.zero_le _) (Nat.le_refl _) (Nat.zero_le _) rfl
   refine ry (y_mov rfl rfl) rfl rfl ?_
   refine ry (y_len rfl Tryz.underlying22 rfl) rfl rfl ?_
   refine ry (y_sh rfl rfl rfl kfcrc1_1 (rfl) (Nat.zero_le _)) rfl rfl ?_
   refine ry (y_asg rfl rfl) rfl rfl ?_
   refine reg_nil ?_
   refine fn_next ?_
   refine cw_seq ?_
   refine cw_reg ?_
   refine ry (y_mov rfl rfl) rfl rfl ?_
   refine ry (y_asg rfl rfl) rfl rfl ?_
   refine reg_nil ?_
   refine fn_next ?_
   refine cw_ret ?_
   refine fn_ret1 rfl rfl ?_
   exact ⟨A6, c6, congrArg (fun x => Value.slice x 0 c6) subA_zero, H7⟩
  ·skip
   refine cw_skip ?_
   refine fn_next ?_
   refine cw_seq ?_
   refine cw_reg ?_
   refine ry (y_mov rfl rfl) rfl rfl ?_
   refine ry (y_asg rfl rfl) rfl rfl ?_
   refine reg_nil ?_
   refine fn_next ?_
   refine cw_ret ?_
   refine fn_ret1 rfl rfl ?_
   exact ⟨none, 0, rfl, H0.nilrow _ _⟩

set_option maxRecDepth 100000 in
set_option maxHeartbeats 1000000 in
theorem concatB (S : Option Addr) (k ck : Nat) (ps : List Bp) (w : World) (hs : Rd w S (ps.map Bp.v)) (hk : ps.length = k) (hr : ∀ p ∈ ps, Rd w p.A (vi .u8 p.bs)) (hn : (flatP ps).length ≤ 100000000) (hkn : k ≤ 100000000) :
    Ret Tryz.prog 34 [.slice S k ck] w (fun v w' => ∃ A c, v = .slice A (flatP ps).length c ∧ HS w w' [.row A (flatP ps).length c (vi .u8 (flatP ps)) 5 1]) := by
 refine ret_enter Tryz.func34 rfl rfl rfl ?_
 have H0 := HS.start w
 refine cw_seq ?_
 refine cw_reg ?_
 refine ry (y_asg rfl rfl) rfl rfl ?_
 refine reg_nil ?_
 refine fn_next ?_
 refine cw_seq ?_
 refine cw_reg ?_
 refine ry (y_asg rfl rfl) rfl rfl ?_
 refine reg_nil ?_
 refine fn_next ?_
 refine cw_seq ?_
 refine cw_seq ?_
 refine cw_reg ?_
 refine ry (y_mov rfl rfl) rfl rfl ?_
 refine ry (y_len rfl Tryz.underlying69 rfl) rfl rfl ?_
 refine ry (y_mov rfl rfl) rfl rfl ?_
 refine reg_nil ?_
 refine fn_next ?_
 refine cw_block ?_
 refine cw_loopJ [3, 5, 11, 12, 13, 14, 15, 16, 17, 18, 19, 20, 21, 22] (fun M wl ml => ∃ (i : Nat), M = [(11, .int .i64 (i : Int)), (3, .int .i64 ((flatP (ps.take i)).length : Int))] ∧ HS w wl [] ∧ (i ≤ ps.length) ∧ ml = ps.length + 1 - i) ⟨0, rfl, H0, Nat.zero_le _, rfl⟩ ⟨rfl, rfl, trivial⟩ ?_
 rintro M w1 m3 ⟨i, rfl, H2, hin, rfl⟩
 have hle := flatP_le ps i
 refine cw_seq ?_
 refine cw_reg ?_
 refine ry (y_lss rfl rfl rfl) rfl rfl ?_
 refine reg_nil ?_
 refine fn_next ?_
 refine cw_seq ?_
 refine cw_condd rfl (fun h4 => ?_) (fun h4 => ?_)
 ·skip
  obtain ⟨p, hp1, hp2, hp3⟩ := bp_get (ps := ps) (i := i) (by omega)
  have hfs := flatP_step hp1
  have hle2 := flatP_le ps (i + 1)
  rw [hfs, List.length_append] at hle2
  refine cw_skip ?_
  refine fn_next ?_
  refine cw_seq ?_
  refine cw_block ?_
  refine cw_seq ?_
  refine cw_reg ?_
  refine ry (y_iar (hs.below H2.base) rfl rfl rfl kfcrc1_3 (rfl) (by omega) (Nat.mul_one _) (hp3)) rfl rfl ?_
  refine ry (y_ldr (hs.below H2.base) rfl rfl kfcrc1_4 (hp3)) rfl rfl ?_
  refine ry (y_asg rfl rfl) rfl rfl ?_
  refine reg_nil ?_
  refine fn_next ?_
  refine cw_seq ?_
  refine cw_reg ?_
  refine ry (y_mov rfl rfl) rfl rfl ?_
  refine ry (y_mov rfl rfl) rfl rfl ?_
  refine ry (y_len rfl Tryz.underlying22 rfl) rfl rfl ?_
  refine ry (y_add rfl rfl rfl (wi (by omega))) rfl rfl ?_
  refine ry (y_asg rfl rfl) rfl rfl ?_
  refine reg_nil ?_
  refine fn_next ?_
  refine cw_seq ?_
  refine cw_reg ?_
  refine ry (y_mov rfl rfl) rfl rfl ?_
  refine ry (y_lss rfl rfl rfl) rfl rfl ?_
  refine reg_nil ?_
  refine fn_next ?_
  refine cw_condd rfl (fun h5 => ?_) (fun h5 => ?_)
  · exfalso; omega
  ·skip
   refine cw_skip ?_
   refine fn_block ?_
   refine fn_next ?_
   refine cw_reg ?_
   refine ry (y_add rfl rfl rfl (wi (by omega))) rfl rfl ?_
   refine ry (y_mov rfl rfl) rfl rfl ?_
   refine reg_nil ?_
   refine fn_roundJ ⟨i + 1, rfl, H2, by omega, rfl⟩ ⟨rfl, by rw [hfs, List.length_append]; rfl, trivial⟩ (by omega) (by repeat (first | exact kp_refl | refine kp_app rfl rfl ?_ | refine kp_cons rfl ?_)) rfl
 ·skip
  refine cw_exit ?_
  refine fn_then_exit (fn_then_exit (fn_block_exit ?_))
  refine fn_next ?_
  refine cw_seq ?_
  refine cw_reg ?_
  refine ry (y_mov rfl rfl) rfl rfl ?_
  refine reg_op (op_call (growB (flatP (ps.take i)).length _ (by omega)) rfl kfcrc1_5 ⟨rfl, rfl, trivial⟩) rfl rfl ?_
  rintro _ w7 ⟨A9, c10, rfl, k6⟩
  have H8 := H2.call k6
  refine ry (y_asg rfl rfl) rfl rfl ?_
  refine reg_nil ?_
  refine fn_next ?_
  refine cw_seq ?_
  refine cw_seq ?_
  refine cw_reg ?_
  refine ry (y_mov rfl rfl) rfl rfl ?_
  refine ry (y_len rfl Tryz.underlying69 rfl) rfl rfl ?_
  refine ry (y_mov rfl rfl) rfl rfl ?_
  refine reg_nil ?_
  refine fn_next ?_
  refine cw_block ?_
  refine cw_loopJ [6, 8, 27, 28, 29, 30, 31, 32, 33, 34] (fun M wl ml => ∃ (i : Nat) (A1 : Option Addr) (c1 : Nat), M = [(27, .int .i64 (i : Int)), (6, .slice A1 (flatP (ps.take i)).length c1)] ∧ HS w wl [Ob.row A1 (flatP (ps.take i)).length c1 (vi .u8 (flatP (ps.take i))) 5 1] ∧ (i ≤ ps.length) ∧ ml = ps.length + 1 - i) ⟨0, _, _, rfl, H8, Nat.zero_le _, rfl⟩ ⟨rfl, rfl, trivial⟩ ?_
  rintro M w11 m13 ⟨i, A1, c1, rfl, H12, hin, rfl⟩
  have hle := flatP_le ps i
  refine cw_seq ?_
  refine cw_reg ?_
  refine ry (y_lss rfl rfl rfl) rfl rfl ?_
  refine reg_nil ?_
  refine fn_next ?_
  refine cw_seq ?_
  refine cw_condd rfl (fun h14 => ?_) (fun h14 => ?_)
  ·skip
   obtain ⟨p, hp1, hp2, hp3⟩ := bp_get (ps := ps) (i := i) (by omega)
   have hfs := flatP_step hp1
   have hle2 := flatP_le ps (i + 1)
   rw [hfs, List.length_append] at hle2
   refine cw_skip ?_
   refine fn_next ?_
   refine cw_seq ?_
   refine cw_block ?_
   refine cw_seq ?_
   refine cw_reg ?_
   refine ry (y_iar (hs.below H12.base) rfl rfl rfl kfcrc1_3 (rfl) (by omega) (Nat.mul_one _) (hp3)) rfl rfl ?_
   refine ry (y_ldr (hs.below H12.base) rfl rfl kfcrc1_4 (hp3)) rfl rfl ?_
   refine ry (y_asg rfl rfl) rfl rfl ?_
   refine reg_nil ?_
   refine fn_next ?_
   refine cw_reg ?_
   refine ry (y_mov rfl rfl) rfl rfl ?_
   refine ry (y_mov rfl rfl) rfl rfl ?_
   refine reg_op (op_app (i := 0) H12 rfl rfl rfl rfl ((hr p hp2).below H12.base) (by rw [vi_len, Nat.mul_one]) (vi_one) Tryz.underlying22 kfcrc1_2 rfl rfl (by unfold maxLen; omega) (by omega)) rfl rfl ?_
   rintro _ w17 ⟨A15, c16, rfl, H18⟩
   refine ry (y_asg rfl rfl) rfl rfl ?_
   refine reg_nil ?_
   refine fn_block ?_
   refine fn_next ?_
   refine cw_reg ?_
   refine ry (y_add rfl rfl rfl (wi (by omega))) rfl rfl ?_
   refine ry (y_mov rfl rfl) rfl rfl ?_
   refine reg_nil ?_
   rw [← vi_app, ← hfs, show (flatP (ps.take i)).length + p.bs.length = (flatP (ps.take (i + 1))).length by rw [hfs, List.length_append]] at H18
   refine fn_roundJ ⟨i + 1, _, _, rfl, H18, by omega, rfl⟩ ⟨rfl, by rw [hfs, List.length_append]; rfl, trivial⟩ (by omega) (by repeat (first | exact kp_refl | refine kp_app rfl rfl ?_ | refine kp_cons rfl ?_)) rfl
  ·skip
   refine cw_exit ?_
   refine fn_then_exit (fn_then_exit (fn_block_exit ?_))
   refine fn_next ?_
   refine cw_seq ?_
   refine cw_reg ?_
   refine ry (y_mov rfl rfl) rfl rfl ?_
   refine ry (y_asg rfl rfl) rfl rfl ?_
   refine reg_nil ?_
   refine fn_next ?_
   refine cw_ret ?_
   refine fn_ret1 rfl rfl ?_
   obtain hi : i = ps.length := by omega
   subst hi
   rw [List.take_length] at *
   exact ⟨A1, c1, rfl, H12⟩

set_option maxRecDepth 100000 in
theorem crcTail (s : BitVec 32) (w : World) :
    Ret Tryz.prog 52 [.int .u32 (s.toNat : Int)] w (fun v w' => ∃ A c, v = .slice A 4 c ∧ HS w w' [.row A 4 c (vi .u8 (tailB s)) 5 1]) := by
 refine ret_enter Tryz.func52 rfl rfl rfl ?_
 have H0 := HS.start w
 refine cw_seq ?_
 refine cw_reg ?_
 refine ry (y_asg rfl rfl) rfl rfl ?_
 refine reg_nil ?_
 refine fn_next ?_
 refine cw_seq ?_
 refine cw_reg ?_
 refine ry (y_mov rfl rfl) rfl rfl ?_
 refine ry (y_conv rfl Tryz.underlying83 Tryz.underlying5 rfl ((wrap8 _).trans rfl)) rfl rfl ?_
 refine ry (y_mov rfl rfl) rfl rfl ?_
 refine ry (y_shr rfl rfl rfl (by decide) (bshr s 8 (by decide))) rfl rfl ?_
 refine ry (y_conv rfl Tryz.underlying83 Tryz.underlying5 rfl (tail_conv s 1 256 rfl (by decide))) rfl rfl ?_
 refine ry (y_mov rfl rfl) rfl rfl ?_
 refine ry (y_shr rfl rfl rfl (by decide) (bshr s 16 (by decide))) rfl rfl ?_
 refine ry (y_conv rfl Tryz.underlying83 Tryz.underlying5 rfl (tail_conv s 2 65536 rfl (by decide))) rfl rfl ?_
 refine ry (y_mov rfl rfl) rfl rfl ?_
 refine ry (y_shr rfl rfl rfl (by decide) (bshr s 24 (by decide))) rfl rfl ?_
 refine ry (y_conv rfl Tryz.underlying83 Tryz.underlying5 rfl ((tail_conv s 3 16777216 rfl (by decide)).trans (by have := s.isLt; omega : _ = (s.toNat : Int) / 16777216))) rfl rfl ?_
 refine reg_op (op_lit (parts := [(0, _), (1, _), (2, _), (3, _)]) (vs := [(0, _), (1, _), (2, _), (3, _)]) (cs := [.int _ _, .int _ _, .int _ _, .int _ _]) H0 rfl Tryz.underlying22 kfcrc1_6 rfl ⟨rfl, rfl, rfl, rfl, trivial⟩ rfl rfl) rfl rfl ?_
 rintro _ w2 ⟨b1, rfl, H3⟩
 have H4 := H3.asrow (m := 4) (size := 1) rfl (by decide)
 refine ry (y_asg rfl rfl) rfl rfl ?_
 refine reg_nil ?_
 refine fn_next ?_
 refine cw_ret ?_
 refine fn_ret1 rfl rfl ?_
 exact ⟨_, _, rfl, H4⟩

set_option maxRecDepth 100000 in
set_option maxHeartbeats 1000000 in
theorem crcMore (s : BitVec 32) (A : Option Addr) (n c : Nat) (bs : List Int) (w : World) (hg : Rd w (some ⟨0, 0, none⟩) (vi .u32 tblI)) (hb : Rd w A (vi .u8 bs)) (hl : bs.length = n) (hB : okB bs) (hn : n ≤ 100000000) :
    Ret Tryz.prog 90 [.int .u32 (s.toNat : Int), .slice A n c] w (fun v w' => v = .int .u32 ((crcM s bs).toNat : Int) ∧ Below w.heap.size w w') := by
 refine ret_enter Tryz.func90 rfl rfl rfl ?_
 have H0 := HS.start w
 refine cw_seq ?_
 refine cw_reg ?_
 refine ry (y_asg rfl rfl) rfl rfl ?_
 refine reg_nil ?_
 refine fn_next ?_
 refine cw_seq ?_
 refine cw_reg ?_
 refine ry (y_mov rfl rfl) rfl rfl ?_
 refine ry (y_com rfl rfl rfl (bcom s)) rfl rfl ?_
 refine ry (y_asg rfl rfl) rfl rfl ?_
 refine reg_nil ?_
 refine fn_next ?_
 refine cw_seq ?_
 refine cw_seq ?_
 refine cw_reg ?_
 refine ry (y_mov rfl rfl) rfl rfl ?_
 refine ry (y_len rfl Tryz.underlying22 rfl) rfl rfl ?_
 refine ry (y_mov rfl rfl) rfl rfl ?_
 refine reg_nil ?_
 refine fn_next ?_
 refine cw_block ?_
 refine cw_loopJ [0, 6, 11, 12, 13, 14, 15, 16, 17, 18, 19, 20, 21, 22, 23, 24, 25, 26, 27, 28, 29, 30, 31, 32, 33] (fun M wl ml => ∃ (i : Nat), M = [(11, .int .i64 (i : Int)), (0, .int .u32 ((((bs.take i).foldl bstep (~~~ s))).toNat : Int))] ∧ HS w wl [] ∧ (i ≤ n) ∧ ml = n + 1 - i) ⟨0, rfl, H0, Nat.zero_le _, rfl⟩ ⟨rfl, rfl, trivial⟩ ?_
 rintro M w1 m3 ⟨i, rfl, H2, hin, rfl⟩
 refine cw_seq ?_
 refine cw_reg ?_
 refine ry (y_lss rfl rfl rfl) rfl rfl ?_
 refine reg_nil ?_
 refine fn_next ?_
 refine cw_seq ?_
 refine cw_condd rfl (fun h4 => ?_) (fun h4 => ?_)
 ·skip
  have gz := vi_get (k := .u8) (zs := bs) (i := i) (by omega)
  have hc := okB_nth hB (i := i) (by omega)
  have tg1 := tbl_at (and15_lt (((bs.take i).foldl bstep (~~~ s)) ^^^ cB (nth bs i)))
  have tg2 := tbl_at (and15_lt (half (((bs.take i).foldl bstep (~~~ s)) ^^^ cB (nth bs i))))
  skip
  refine cw_skip ?_
  refine fn_next ?_
  refine cw_seq ?_
  refine cw_block ?_
  refine cw_seq ?_
  refine cw_reg ?_
  refine ry (y_iar (hb.below H2.base) rfl rfl rfl kfcrc1_1 (rfl) (by omega) (Nat.mul_one _) (gz)) rfl rfl ?_
  refine ry (y_ldr (hb.below H2.base) rfl rfl kfcrc1_7 (gz)) rfl rfl ?_
  refine ry (y_asg rfl rfl) rfl rfl ?_
  refine reg_nil ?_
  refine fn_next ?_
  refine cw_seq ?_
  refine cw_reg ?_
  refine ry (y_mov rfl rfl) rfl rfl ?_
  refine ry (y_mov rfl rfl) rfl rfl ?_
  refine ry (y_conv rfl Tryz.underlying5 Tryz.underlying83 rfl (bconv hc)) rfl rfl ?_
  refine ry (y_xor rfl rfl rfl (bx ((bs.take i).foldl bstep (~~~ s)) (cB (nth bs i)))) rfl rfl ?_
  refine ry (y_asg rfl rfl) rfl rfl ?_
  refine reg_nil ?_
  refine fn_next ?_
  refine cw_seq ?_
  refine cw_reg ?_
  refine ry (y_mov rfl rfl) rfl rfl ?_
  refine ry (y_shr rfl rfl rfl (by decide) (bshr (((bs.take i).foldl bstep (~~~ s)) ^^^ cB (nth bs i)) 4 (by decide))) rfl rfl ?_
  refine ry (y_mov rfl rfl) rfl rfl ?_
  refine ry (y_and rfl rfl rfl (band15 (((bs.take i).foldl bstep (~~~ s)) ^^^ cB (nth bs i)))) rfl rfl ?_
  refine ry (y_iag rfl rfl rfl kfcrc1_8 (rfl) (and15_lt _) rfl) rfl rfl ?_
  refine ry (y_ldr (hg.below H2.base) rfl rfl kfcrc1_9 (by rw [Nat.mul_one]; exact tg1)) rfl rfl ?_
  refine ry (y_xor rfl rfl rfl (bx ((((bs.take i).foldl bstep (~~~ s)) ^^^ cB (nth bs i)) >>> 4) (tT ((((bs.take i).foldl bstep (~~~ s)) ^^^ cB (nth bs i)) &&& 15#32).toNat))) rfl rfl ?_
  refine ry (y_asg rfl rfl) rfl rfl ?_
  refine reg_nil ?_
  refine fn_next ?_
  refine cw_reg ?_
  refine ry (y_mov rfl rfl) rfl rfl ?_
  refine ry (y_shr rfl rfl rfl (by decide) (bshr (half (((bs.take i).foldl bstep (~~~ s)) ^^^ cB (nth bs i))) 4 (by decide))) rfl rfl ?_
  refine ry (y_mov rfl rfl) rfl rfl ?_
  refine ry (y_and rfl rfl rfl (band15 (half (((bs.take i).foldl bstep (~~~ s)) ^^^ cB (nth bs i))))) rfl rfl ?_
  refine ry (y_iag rfl rfl rfl kfcrc1_8 (rfl) (and15_lt _) rfl) rfl rfl ?_
  refine ry (y_ldr (hg.below H2.base) rfl rfl kfcrc1_9 (by rw [Nat.mul_one]; exact tg2)) rfl rfl ?_
  refine ry (y_xor rfl rfl rfl (bx ((half (((bs.take i).foldl bstep (~~~ s)) ^^^ cB (nth bs i))) >>> 4) (tT ((half (((bs.take i).foldl bstep (~~~ s)) ^^^ cB (nth bs i))) &&& 15#32).toNat))) rfl rfl ?_
  refine ry (y_asg rfl rfl) rfl rfl ?_
  refine reg_nil ?_
  refine fn_block ?_
  refine fn_next ?_
  refine cw_reg ?_
  refine ry (y_add rfl rfl rfl (wi (by omega))) rfl rfl ?_
  refine ry (y_mov rfl rfl) rfl rfl ?_
  refine reg_nil ?_
  refine fn_roundJ ⟨i + 1, rfl, H2, by omega, rfl⟩ ⟨rfl, by rw [fold_step _ (by omega)]; rfl, trivial⟩ (by omega) (by repeat (first | exact kp_refl | refine kp_app rfl rfl ?_ | refine kp_cons rfl ?_)) rfl
 ·skip
  refine cw_exit ?_
  refine fn_then_exit (fn_then_exit (fn_block_exit ?_))
  refine fn_next ?_
  refine cw_seq ?_
  refine cw_reg ?_
  refine ry (y_mov rfl rfl) rfl rfl ?_
  refine ry (y_com rfl rfl rfl (bcom _)) rfl rfl ?_
  refine ry (y_asg rfl rfl) rfl rfl ?_
  refine reg_nil ?_
  refine fn_next ?_
  refine cw_ret ?_
  refine fn_ret1 rfl rfl ?_
  obtain rfl : i = n := by omega
  exact ⟨by rw [List.take_of_length_le (by omega)]; rfl, H2.base⟩

set_option maxRecDepth 100000 in
theorem crcSum (A : Option Addr) (n c : Nat) (bs : List Int) (w : World) (hg : Rd w (some ⟨0, 0, none⟩) (vi .u32 tblI)) (hb : Rd w A (vi .u8 bs)) (hl : bs.length = n) (hB : okB bs) (hn : n ≤ 100000000) :
    Ret Tryz.prog 53 [.slice A n c] w (fun v w' => v = .int .u32 ((crcM 0#32 bs).toNat : Int) ∧ Below w.heap.size w w') := by
 refine ret_enter Tryz.func53 rfl rfl rfl ?_
 have H0 := HS.start w
 refine cw_seq ?_
 refine cw_reg ?_
 refine ry (y_asg rfl rfl) rfl rfl ?_
 refine reg_nil ?_
 refine fn_next ?_
 refine cw_seq ?_
 refine cw_reg ?_
 refine ry (y_mov rfl rfl) rfl rfl ?_
 refine reg_op (op_call (crcMore 0#32 A n c bs _ (hg.below H0.base) (hb.below H0.base) hl hB hn) rfl kfcrc1_10 ⟨rfl, rfl, trivial⟩) rfl rfl ?_
 rintro _ w2 ⟨rfl, e1⟩
 have H3 := H0.ext e1
 refine ry (y_asg rfl rfl) rfl rfl ?_
 refine reg_nil ?_
 refine fn_next ?_
 refine cw_ret ?_
 refine fn_ret1 rfl rfl ?_
 exact ⟨rfl, H3.base⟩

set_option maxRecDepth 100000 in
set_option maxHeartbeats 1000000 in
theorem crcSeal (A : Option Addr) (c : Nat) (bs : List Int) (w : World) (hg : Rd w (some ⟨0, 0, none⟩) (vi .u32 tblI)) (hb : Rd w A (vi .u8 bs)) (hB : okB bs) (hn : bs.length ≤ 90000000) :
    Ret Tryz.prog 33 [.slice A bs.length c] w (fun v w' => ∃ A' c', v = .slice A' (bs ++ tailB (crcM 0#32 bs)).length c' ∧ HS w w' [.row A' (bs ++ tailB (crcM 0#32 bs)).length c' (vi .u8 (bs ++ tailB (crcM 0#32 bs))) 5 1]) := by
 refine ret_enter Tryz.func33 rfl rfl rfl ?_
 have H0 := HS.start w
 refine cw_seq ?_
 refine cw_reg ?_
 refine ry (y_asg rfl rfl) rfl rfl ?_
 refine reg_nil ?_
 refine fn_next ?_
 refine cw_seq ?_
 refine cw_reg ?_
 refine ry (y_mov rfl rfl) rfl rfl ?_
 refine ry (y_mov rfl rfl) rfl rfl ?_
 refine reg_op (op_call (crcSum A bs.length c bs _ (hg.below H0.base) (hb.below H0.base) rfl hB (by omega)) rfl kfcrc1_11 ⟨rfl, trivial⟩) rfl rfl ?_
 rintro _ w2 ⟨rfl, e1⟩
 have H3 := H0.ext e1
 refine reg_op (op_call (crcTail (crcM 0#32 bs) _) rfl kfcrc1_12 ⟨rfl, trivial⟩) rfl rfl ?_
 rintro _ w5 ⟨A7, c8, rfl, k4⟩
 have H6 := H3.call k4
 refine reg_op (op_lit (parts := [(0, _), (1, _)]) (vs := [(0, _), (1, _)]) (cs := [.slice _ _ _, .slice _ _ _]) H6 rfl Tryz.underlying69 kfcrc1_13 rfl ⟨rfl, rfl, trivial⟩ rfl rfl) rfl rfl ?_
 rintro _ w10 ⟨b9, rfl, H11⟩
 have H12 := H11.asrow (m := 2) (size := 1) rfl (by decide)
 refine reg_op (op_call (concatB _ 2 2 [⟨A, c, bs⟩, ⟨A7, c8, tailB (crcM 0#32 bs)⟩] _ (H12.rd (i := 0) rfl) rfl (fun p hp => by rcases List.mem_cons.1 hp with rfl | hp; exact hb.below H12.base; obtain rfl := List.mem_singleton.1 hp; exact H12.rd (i := 1) rfl) (by simp [flatP, tailB]; omega) (by omega)) rfl kfcrc1_14 ⟨rfl, trivial⟩) rfl rfl ?_
 rintro _ w14 ⟨A16, c17, rfl, k13⟩
 have H15 := H12.call k13
 refine ry (y_asg rfl rfl) rfl rfl ?_
 refine reg_nil ?_
 refine fn_next ?_
 refine cw_ret ?_
 refine fn_ret1 rfl rfl ?_
 rw [show ∀ (A1 : Option Addr) (c1 : Nat), flatP [⟨A, c, bs⟩, ⟨A1, c1, tailB (crcM 0#32 bs)⟩] = bs ++ tailB (crcM 0#32 bs) from fun _ _ => by simp [flatP]] at *
 exact ⟨_, _, rfl, (H15.pick (m := [_]) [0] rfl (by decide))⟩

end Go.Proofs.YtbnjbgcadkdljaaGreatDoor
