/- Layer 3: the document's sums; sealed bytes opened. -/
import Derived.Test.YtbnjbgcadkdljaaGreatDoorCrc1
import Derived.Test.YtbnjbgcadkdljaaGreatDoorK21
import Derived.Test.YtbnjbgcadkdljaaGreatDoorDir3
set_option linter.unusedVariables false
set_option linter.unusedSimpArgs false
namespace Go.Proofs.YtbnjbgcadkdljaaGreatDoor
open Go Go.RowKit
theorem kfcrc2_1 : elB Tryz.prog 22 1 = true := by kernel_rfl
theorem kfcrc2_2 : oneB Tryz.prog 5 = true := by kernel_rfl
theorem kfcrc2_3 : callB Tryz.prog 82 = true := by kernel_rfl
theorem kfcrc2_4 : (Tryz.prog.info? 5).map (fun i => (i.size, i.zero.map Value.cells)) = some (1, some (List.toArray [(.int .u8 0)])) := by kernel_rfl
theorem kfcrc2_5 : callB Tryz.prog 53 = true := by kernel_rfl
theorem kfcrc2_6 : callB Tryz.prog 52 = true := by kernel_rfl
theorem kfcrc2_7 : callB Tryz.prog 51 = true := by kernel_rfl
theorem kfcrc2_8 : callB Tryz.prog 54 = true := by kernel_rfl
theorem kfcrc2_9 : callB Tryz.prog 39 = true := by kernel_rfl
theorem kfcrc2_10 : callB Tryz.prog 38 = true := by kernel_rfl

set_option maxRecDepth 100000 in
set_option maxHeartbeats 2000000 in
theorem refMore3 (s : BitVec 32) (A : Option Addr) (n c : Nat) (bs : List Int) (w : World) (hb : Rd w A (vi .u8 bs)) (hl : bs.length = n) (hB : okB bs) (hn : n ≤ 100000000) :
    Ret Tryz.prog 82 [.int .u32 (s.toNat : Int), .slice A n c] w (fun v w' => v = .int .u32 ((crcM s bs).toNat : Int) ∧ Below w.heap.size w w') := by
 refine ret_enter Tryz.func82 rfl rfl rfl ?_
 have H0 := HS.start w
 refine cw_seq ?_
 refine cw_reg ?_
 refine ry (y_asg rfl rfl) rfl rfl ?_
 refine reg_nil ?_
 refine fn_next ?_
 refine cw_seq ?_
 refine cw_reg ?_
 refine ry (y_mov rfl rfl) rfl rfl ?_
 refine ry (y_xor rfl rfl rfl (bxm s)) rfl rfl ?_
 refine ry (y_asg rfl rfl) rfl rfl ?_
 refine reg_nil ?_
 refine fn_next ?_
 refine cw_seq ?_
 refine cw_seq ?_
 refine cw_reg ?_
 refine ry (y_asg rfl rfl) rfl rfl ?_
 refine reg_nil ?_
 refine fn_next ?_
 refine cw_block ?_
 refine cw_loopJ [0, 5, 6, 7, 10, 11, 12, 13, 14, 15, 16, 17, 18, 19, 20, 21, 22, 23, 24, 25, 26, 27, 28, 29, 30, 31, 32, 33, 34] (fun M wl ml => ∃ (i : Nat), M = [(5, .int .i64 (i : Int)), (0, .int .u32 ((((bs.take i).foldl bstep (~~~ s))).toNat : Int))] ∧ HS w wl [] ∧ (i ≤ n) ∧ ml = n + 1 - i) ⟨0, rfl, H0, Nat.zero_le _, rfl⟩ ⟨rfl, rfl, trivial⟩ ?_
 rintro M w1 m3 ⟨i, rfl, H2, hin, rfl⟩
 refine cw_seq ?_
 refine cw_seq ?_
 refine cw_reg ?_
 refine ry (y_mov rfl rfl) rfl rfl ?_
 refine ry (y_mov rfl rfl) rfl rfl ?_
 refine ry (y_len rfl Tryz.underlying22 rfl) rfl rfl ?_
 refine ry (y_lss rfl rfl rfl) rfl rfl ?_
 refine reg_nil ?_
 refine fn_next ?_
 refine cw_condd rfl (fun h4 => ?_) (fun h4 => ?_)
 ·skip
  have gz := vi_get (k := .u8) (zs := bs) (i := i) (by omega)
  have hc := okB_nth hB (i := i) (by omega)
  refine cw_skip ?_
  refine fn_next ?_
  refine cw_seq ?_
  refine cw_block ?_
  refine cw_seq ?_
  refine cw_reg ?_
  refine ry (y_mov rfl rfl) rfl rfl ?_
  refine ry (y_mov rfl rfl) rfl rfl ?_
  refine ry (y_mov rfl rfl) rfl rfl ?_
  refine ry (y_iar (hb.below H2.base) rfl rfl rfl kfcrc2_1 (rfl) (by omega) (Nat.mul_one _) (gz)) rfl rfl ?_
  refine ry (y_ldr (hb.below H2.base) rfl rfl kfcrc2_2 (gz)) rfl rfl ?_
  refine ry (y_conv rfl Tryz.underlying5 Tryz.underlying83 rfl (bconv hc)) rfl rfl ?_
  refine ry (y_xor rfl rfl rfl (bx ((bs.take i).foldl bstep (~~~ s)) (cB (nth bs i)))) rfl rfl ?_
  refine ry (y_asg rfl rfl) rfl rfl ?_
  refine reg_nil ?_
  refine fn_next ?_
  refine cw_seq ?_
  refine cw_reg ?_
  refine ry (y_asg rfl rfl) rfl rfl ?_
  refine reg_nil ?_
  refine fn_next ?_
  refine cw_block ?_
  refine cw_loopJ [0, 6, 7, 23, 24, 25, 26, 27, 28, 29, 30, 31, 32, 33, 34] (fun M wl ml => ∃ (k : Nat), M = [(6, .int .i64 (k : Int)), (0, .int .u32 ((rbn k (((bs.take i).foldl bstep (~~~ s)) ^^^ cB (nth bs i))).toNat : Int))] ∧ HS w wl [] ∧ (k ≤ 8) ∧ ml = 9 - k) ⟨0, rfl, H2, by omega, rfl⟩ ⟨rfl, rfl, trivial⟩ ?_
  rintro M w5 m7 ⟨k, rfl, H6, hk8, rfl⟩
  refine cw_seq ?_
  refine cw_seq ?_
  refine cw_reg ?_
  refine ry (y_mov rfl rfl) rfl rfl ?_
  refine ry (y_lss rfl rfl rfl) rfl rfl ?_
  refine reg_nil ?_
  refine fn_next ?_
  refine cw_condd rfl (fun h8 => ?_) (fun h8 => ?_)
  ·skip
   refine cw_skip ?_
   refine fn_next ?_
   refine cw_seq ?_
   refine cw_block ?_
   refine cw_seq ?_
   refine cw_reg ?_
   refine ry (y_mov rfl rfl) rfl rfl ?_
   refine ry (y_rem rfl rfl rfl (by omega) (tmn (by omega) rfl)) rfl rfl ?_
   refine ry (y_asg rfl rfl) rfl rfl ?_
   refine reg_nil ?_
   refine fn_next ?_
   refine cw_seq ?_
   refine cw_reg ?_
   refine ry (y_mov rfl rfl) rfl rfl ?_
   refine ry (y_quo rfl rfl rfl (by omega) ((tdq (by omega) (wu32 (by have := (rbn k (((bs.take i).foldl bstep (~~~ s)) ^^^ cB (nth bs i))).isLt; omega))).trans (half_toNat _))) rfl rfl ?_
   refine ry (y_asg rfl rfl) rfl rfl ?_
   refine reg_nil ?_
   refine fn_next ?_
   refine cw_seq ?_
   refine cw_reg ?_
   refine ry (y_mov rfl rfl) rfl rfl ?_
   refine ry (y_eql rfl rfl rfl) rfl rfl ?_
   refine reg_nil ?_
   refine fn_next ?_
   refine cw_condd rfl (fun hod => ?_) (fun hod => ?_)
   ·skip
    refine cw_reg ?_
    refine ry (y_mov rfl rfl) rfl rfl ?_
    refine ry (y_xor rfl rfl rfl (bx (rbn k (((bs.take i).foldl bstep (~~~ s)) ^^^ cB (nth bs i)) >>> 1) rP)) rfl rfl ?_
    refine ry (y_asg rfl rfl) rfl rfl ?_
    refine reg_nil ?_
    refine fn_block ?_
    refine fn_next ?_
    refine cw_reg ?_
    refine ry (y_mov rfl rfl) rfl rfl ?_
    refine ry (y_add rfl rfl rfl (wi (by omega))) rfl rfl ?_
    refine ry (y_asg rfl rfl) rfl rfl ?_
    refine reg_nil ?_
    refine fn_roundJ ⟨k + 1, rfl, H6, by omega, rfl⟩ ⟨rfl, show _ = some (Value.int .u32 ((rbit (rbn k (((bs.take i).foldl bstep (~~~ s)) ^^^ cB (nth bs i)))).toNat : Int)) by first | (rw [rbit_odd ((odd_iff _).1 hod)]; rfl) | (rw [rbit_even (Bool.eq_false_iff.2 (fun q => hod ((odd_iff _).2 q)))]; rfl), trivial⟩ (by omega) (by repeat (first | exact kp_refl | refine kp_app rfl rfl ?_ | refine kp_cons rfl ?_)) rfl
   ·skip
    refine cw_skip ?_
    refine fn_block ?_
    refine fn_next ?_
    refine cw_reg ?_
    refine ry (y_mov rfl rfl) rfl rfl ?_
    refine ry (y_add rfl rfl rfl (wi (by omega))) rfl rfl ?_
    refine ry (y_asg rfl rfl) rfl rfl ?_
    refine reg_nil ?_
    refine fn_roundJ ⟨k + 1, rfl, H6, by omega, rfl⟩ ⟨rfl, show _ = some (Value.int .u32 ((rbit (rbn k (((bs.take i).foldl bstep (~~~ s)) ^^^ cB (nth bs i)))).toNat : Int)) by first | (rw [rbit_odd ((odd_iff _).1 hod)]; rfl) | (rw [rbit_even (Bool.eq_false_iff.2 (fun q => hod ((odd_iff _).2 q)))]; rfl), trivial⟩ (by omega) (by repeat (first | exact kp_refl | refine kp_app rfl rfl ?_ | refine kp_cons rfl ?_)) rfl
  ·skip
   obtain rfl : k = 8 := by omega
   refine cw_exit ?_
   refine fn_then_exit (fn_then_exit (fn_block_exit ?_))
   refine fn_block ?_
   refine fn_next ?_
   refine cw_reg ?_
   refine ry (y_mov rfl rfl) rfl rfl ?_
   refine ry (y_add rfl rfl rfl (wi (by omega))) rfl rfl ?_
   refine ry (y_asg rfl rfl) rfl rfl ?_
   refine reg_nil ?_
   refine fn_roundJ ⟨i + 1, rfl, H6, by omega, rfl⟩ ⟨rfl, by rw [fold_step _ (by omega), ← rbn8]; rfl, trivial⟩ (by omega) (by repeat (first | exact kp_refl | refine kp_app rfl rfl ?_ | refine kp_cons rfl ?_)) rfl
 ·skip
  obtain rfl : n = i := by omega
  refine cw_exit ?_
  refine fn_then_exit (fn_then_exit (fn_block_exit ?_))
  refine fn_next ?_
  refine cw_seq ?_
  refine cw_reg ?_
  refine ry (y_mov rfl rfl) rfl rfl ?_
  refine ry (y_xor rfl rfl rfl (bxm _)) rfl rfl ?_
  refine ry (y_asg rfl rfl) rfl rfl ?_
  refine reg_nil ?_
  refine fn_next ?_
  refine cw_ret ?_
  refine fn_ret1 rfl rfl ?_
  exact ⟨by rw [List.take_of_length_le (by omega)]; rfl, H2.base⟩

set_option maxRecDepth 100000 in
theorem refSum3 (A : Option Addr) (n c : Nat) (bs : List Int) (w : World) (hb : Rd w A (vi .u8 bs)) (hl : bs.length = n) (hB : okB bs) (hn : n ≤ 100000000) :
    Ret Tryz.prog 39 [.slice A n c] w (fun v w' => v = .int .u32 ((crcM 0#32 bs).toNat : Int) ∧ Below w.heap.size w w') := by
 refine ret_enter Tryz.func39 rfl rfl rfl ?_
 have H0 := HS.start w
 refine cw_seq ?_
 refine cw_reg ?_
 refine ry (y_asg rfl rfl) rfl rfl ?_
 refine reg_nil ?_
 refine fn_next ?_
 refine cw_seq ?_
 refine cw_reg ?_
 refine ry (y_mov rfl rfl) rfl rfl ?_
 refine reg_op (op_call (refMore3 0#32 A n c bs _ (hb.below H0.base) hl hB hn) rfl kfcrc2_3 ⟨rfl, rfl, trivial⟩) rfl rfl ?_
 rintro _ w2 ⟨rfl, e1⟩
 have H3 := H0.ext e1
 refine ry (y_asg rfl rfl) rfl rfl ?_
 refine reg_nil ?_
 refine fn_next ?_
 refine cw_ret ?_
 refine fn_ret1 rfl rfl ?_
 exact ⟨rfl, H3.base⟩

set_option maxRecDepth 100000 in
theorem refTail3 (s : BitVec 32) (w : World) :
    Ret Tryz.prog 38 [.int .u32 (s.toNat : Int)] w (fun v w' => ∃ A c, v = .slice A 4 c ∧ HS w w' [.row A 4 c (vi .u8 (tailB s)) 5 1]) := by
 have hlt := s.isLt
 refine ret_enter Tryz.func38 rfl rfl rfl ?_
 have H0 := HS.start w
 refine cw_seq ?_
 refine cw_reg ?_
 refine ry (y_asg rfl rfl) rfl rfl ?_
 refine reg_nil ?_
 refine fn_next ?_
 refine cw_seq ?_
 refine cw_reg ?_
 refine ry (y_mov rfl rfl) rfl rfl ?_
 refine ry (y_rem rfl rfl rfl (by omega) (tmn (by omega) rfl)) rfl rfl ?_
 refine ry (y_conv rfl Tryz.underlying83 Tryz.underlying5 rfl (wu8 (by omega))) rfl rfl ?_
 refine ry (y_mov rfl rfl) rfl rfl ?_
 refine ry (y_quo rfl rfl rfl (by omega) (tdq (by omega) (wu32 (by omega)))) rfl rfl ?_
 refine ry (y_rem rfl rfl rfl (by omega) (tmn (by omega) rfl)) rfl rfl ?_
 refine ry (y_conv rfl Tryz.underlying83 Tryz.underlying5 rfl (wu8 (by omega))) rfl rfl ?_
 refine ry (y_mov rfl rfl) rfl rfl ?_
 refine ry (y_quo rfl rfl rfl (by omega) (tdq (by omega) (wu32 (by omega)))) rfl rfl ?_
 refine ry (y_rem rfl rfl rfl (by omega) (tmn (by omega) rfl)) rfl rfl ?_
 refine ry (y_conv rfl Tryz.underlying83 Tryz.underlying5 rfl (wu8 (by omega))) rfl rfl ?_
 refine ry (y_mov rfl rfl) rfl rfl ?_
 refine ry (y_quo rfl rfl rfl (by omega) (tdq (by omega) (wu32 (by omega)))) rfl rfl ?_
 refine ry (y_conv rfl Tryz.underlying83 Tryz.underlying5 rfl (wu8 (by omega))) rfl rfl ?_
 refine reg_op (op_lit (parts := [(0, _), (1, _), (2, _), (3, _)]) (vs := [(0, _), (1, _), (2, _), (3, _)]) (cs := [.int _ _, .int _ _, .int _ _, .int _ _]) H0 rfl Tryz.underlying22 kfcrc2_4 rfl ⟨rfl, rfl, rfl, rfl, trivial⟩ rfl rfl) rfl rfl ?_
 rintro _ w2 ⟨b1, rfl, H3⟩
 have H4 := H3.asrow (m := 4) (size := 1) rfl (by decide)
 refine ry (y_asg rfl rfl) rfl rfl ?_
 refine reg_nil ?_
 refine fn_next ?_
 refine cw_ret ?_
 refine fn_ret1 rfl rfl ?_
 exact ⟨_, _, rfl, H4⟩

theorem okB_take {l : List Int} (h : okB l) (k : Nat) : okB (l.take k) := fun z hz => h z (List.mem_of_mem_take hz)
theorem okB_drp {l : List Int} (h : okB l) (k : Nat) : okB (l.drop k) := fun z hz => h z (List.mem_of_mem_drop hz)
theorem tailB_byt (s : BitVec 32) : Byt (tailB s) := fun z hz => by
  have := s.isLt
  unfold tailB at hz
  simp only [List.mem_cons, List.not_mem_nil, or_false] at hz
  omega
/-- are the bytes sealed? -/
def seald (bs : List Int) : Prop := 4 ≤ bs.length ∧ tailB (crcM 0#32 (bs.take (bs.length - 4))) = bs.drop (bs.length - 4)

theorem rd_hi {w : World} {A : Option Addr} {c k : Nat} {bs : List Int} (h : Rd w A (vi .u8 bs)) (hk : k ≤ c) : Rd w (subA A c 0 1) (vi .u8 (bs.take k)) := by
  have h1 := Rd.slice (cap := c) (lo := 0) (hi := k) (size := 1) h (Nat.zero_le _) hk
  simpa [vi, List.map_take] using h1
theorem rd_lo {w : World} {A : Option Addr} {c lo : Nat} {bs : List Int} (h : Rd w A (vi .u8 bs)) (h1 : lo ≤ bs.length) (h2 : bs.length ≤ c) : Rd w (subA A c lo 1) (vi .u8 (bs.drop lo)) := by
  have h3 := Rd.slice (cap := c) (lo := lo) (hi := bs.length) (size := 1) h h1 h2
  have e : (List.take (bs.length * 1) (vi .u8 bs)) = vi .u8 bs := List.take_of_length_le (by rw [vi_len]; omega)
  rw [e] at h3
  simpa [vi, List.map_drop] using h3

set_option maxRecDepth 100000 in
set_option maxHeartbeats 1000000 in
theorem crcOpenOk (A : Option Addr) (n c : Nat) (bs : List Int) (w : World) (hg : Rd w (some ⟨0, 0, none⟩) (vi .u32 tblI)) (hb : Rd w A (vi .u8 bs)) (hl : bs.length = n) (hcap : n ≤ c) (hB : okB bs) (hn : n ≤ 90000000) (hs : seald bs) :
    Ret Tryz.prog 18 [.slice A n c] w (fun v w' => ∃ A' c', v = .tuple #[.slice A' (n - 4) c', .int .i64 0] ∧ HS w w' [.row A' (n - 4) c' (vi .u8 (bs.take (n - 4))) 5 1]) := by
 have hBt := okB_take hB (n - 4)
 have hBd := okB_drp hB (n - 4)
 have hpre := rd_hi (c := c) (k := n - 4) hb (by omega)
 have hsuf := rd_lo (c := c) (lo := n - 4) hb (by omega) (by omega)
 have hlt : (bs.take (n - 4)).length = n - 4 := by rw [List.length_take]; omega
 refine ret_enter Tryz.func18 rfl rfl rfl ?_
 have H0 := HS.start w
 refine cw_seq ?_
 refine cw_reg ?_
 refine ry (y_asg rfl rfl) rfl rfl ?_
 refine ry (y_asg rfl rfl) rfl rfl ?_
 refine reg_nil ?_
 refine fn_next ?_
 refine cw_seq ?_
 refine cw_seq ?_
 refine cw_reg ?_
 refine ry (y_mov rfl rfl) rfl rfl ?_
 refine ry (y_len rfl Tryz.underlying22 rfl) rfl rfl ?_
 refine ry (y_lss rfl rfl rfl) rfl rfl ?_
 refine reg_nil ?_
 refine fn_next ?_
 refine cw_condd rfl (fun h1 => ?_) (fun h1 => ?_)
 ·skip
  exact absurd hs.1 (by omega)
 ·skip
  refine cw_skip ?_
  refine fn_next ?_
  refine cw_seq ?_
  refine cw_draw H0 [0, 1, 2, 3, 4, 5, 6, 7, 8, 9, 10, 11] [] (fun X HX => HX) (by kernel_rfl) (by kernel_rfl) (by rfl) ?_
  simp only [pick, List.getElem?_cons_succ, List.getElem?_cons_zero]
  refine hk_y (fun Y HY => y_mov rfl rfl) rfl rfl ?_
  refine hk_y (fun Y HY => y_mov rfl rfl) rfl rfl ?_
  refine hk_y (fun Y HY => y_len rfl Tryz.underlying22 rfl) rfl rfl ?_
  refine hk_y (fun Y HY => y_sub rfl rfl rfl (show _ = ((n - 4 : Nat) : Int) from (wi (by omega)).trans (by omega))) rfl rfl ?_
  refine hk_y (fun Y HY => y_sh rfl rfl rfl kfcrc2_1 (rfl) (by omega)) rfl rfl ?_
  refine hk_y (fun Y HY => y_mov rfl rfl) rfl rfl ?_
  refine hk_y (fun Y HY => y_mov rfl rfl) rfl rfl ?_
  refine hk_y (fun Y HY => y_len rfl Tryz.underlying22 rfl) rfl rfl ?_
  refine hk_y (fun Y HY => y_sub rfl rfl rfl (show _ = ((n - 4 : Nat) : Int) from (wi (by omega)).trans (by omega))) rfl rfl ?_
  refine hk_y (fun Y HY => y_sl rfl rfl rfl kfcrc2_1 (rfl) (by omega)) rfl rfl ?_
  refine hk_y (fun Y HY => y_asg rfl rfl) rfl rfl ?_
  refine hk_y (fun Y HY => y_asg rfl rfl) rfl rfl ?_
  refine hk_nil ?_
  intro w2 H3
  refine tv_nil ?_
  refine fn_next ?_
  refine cw_seq ?_
  refine cw_seq ?_
  refine cw_reg ?_
  refine ry (y_mov rfl rfl) rfl rfl ?_
  refine ry (y_mov rfl rfl) rfl rfl ?_
  refine reg_op (op_call (crcSum (subA A c 0 1) (n - 4) c (bs.take (n - 4)) _ (hg.below H3.base) (hpre.below H3.base) hlt hBt (by omega)) rfl kfcrc2_5 ⟨rfl, trivial⟩) rfl rfl ?_
  rintro _ w5 ⟨rfl, e4⟩
  have H6 := H3.ext e4
  refine reg_op (op_call (crcTail (crcM 0#32 (bs.take (n - 4))) _) rfl kfcrc2_6 ⟨rfl, trivial⟩) rfl rfl ?_
  rintro _ w8 ⟨A10, c11, rfl, k7⟩
  have H9 := H6.call k7
  refine reg_op (op_call (bytesEqual_any (subA A c (n - 4) 1) (n - (n - 4)) (c - (n - 4)) (bs.drop (n - 4)) _ 4 _ (tailB (crcM 0#32 (bs.take (n - 4)))) _ (hsuf.below H9.base) (by rw [List.length_drop]; omega) (okB_byt.1 hBd) (H9.rd (i := 0) rfl) rfl (tailB_byt _)) rfl kfcrc2_7 ⟨rfl, rfl, trivial⟩) rfl rfl ?_
  rintro _ w13 ⟨rfl, e12⟩
  have H14 := H9.ext e12
  refine ry (y_notd rfl rfl) rfl rfl ?_
  refine reg_nil ?_
  refine fn_next ?_
  refine cw_condd rfl (fun h15 => ?_) (fun h15 => ?_)
  ·skip
   exact absurd (by rw [← hl]; exact hs.2.symm) h15
  ·skip
   refine cw_skip ?_
   refine fn_next ?_
   refine cw_seq ?_
   refine cw_reg ?_
   refine ry (y_mov rfl rfl) rfl rfl ?_
   refine reg_op (op_call (CloneB (subA A c 0 1) (n - 4) c (vi .u8 (bs.take (n - 4))) _ (hpre.below H14.base) (by rw [vi_len, hlt, Nat.mul_one]) vi_one (by omega)) rfl kfcrc2_8 ⟨rfl, trivial⟩) rfl rfl ?_
   rintro _ w17 ⟨A19, c20, rfl, k16⟩
   have H18 := H14.call k16
   refine ry (y_asg rfl rfl) rfl rfl ?_
   refine ry (y_asg rfl rfl) rfl rfl ?_
   refine reg_nil ?_
   refine fn_next ?_
   refine cw_ret ?_
   refine fn_retn (vs := [_, _]) rfl ⟨rfl, rfl, trivial⟩ rfl ?_
   exact ⟨_, _, rfl, (H18.pick (m := [_]) [0] rfl (by decide))⟩

set_option maxRecDepth 100000 in
set_option maxHeartbeats 1000000 in
theorem crcOpenBad (A : Option Addr) (n c : Nat) (bs : List Int) (w : World) (hg : Rd w (some ⟨0, 0, none⟩) (vi .u32 tblI)) (hb : Rd w A (vi .u8 bs)) (hl : bs.length = n) (hcap : n ≤ c) (hB : okB bs) (hn : n ≤ 90000000) (hs : ¬ seald bs) :
    Ret Tryz.prog 18 [.slice A n c] w (fun v w' => ∃ e : Int, v = .tuple #[.slice none 0 0, .int .i64 e] ∧ e ≠ 0 ∧ Below w.heap.size w w') := by
 have hBt := okB_take hB (n - 4)
 have hBd := okB_drp hB (n - 4)
 have hpre := rd_hi (c := c) (k := n - 4) hb (by omega)
 have hsuf := rd_lo (c := c) (lo := n - 4) hb (by omega) (by omega)
 have hlt : (bs.take (n - 4)).length = n - 4 := by rw [List.length_take]; omega
 refine ret_enter Tryz.func18 rfl rfl rfl ?_
 have H0 := HS.start w
 refine cw_seq ?_
 refine cw_reg ?_
 refine ry (y_asg rfl rfl) rfl rfl ?_
 refine ry (y_asg rfl rfl) rfl rfl ?_
 refine reg_nil ?_
 refine fn_next ?_
 refine cw_seq ?_
 refine cw_seq ?_
 refine cw_reg ?_
 refine ry (y_mov rfl rfl) rfl rfl ?_
 refine ry (y_len rfl Tryz.underlying22 rfl) rfl rfl ?_
 refine ry (y_lss rfl rfl rfl) rfl rfl ?_
 refine reg_nil ?_
 refine fn_next ?_
 refine cw_condd rfl (fun h1 => ?_) (fun h1 => ?_)
 ·skip
  refine cw_seq ?_
  refine cw_reg ?_
  refine ry (y_asg rfl rfl) rfl rfl ?_
  refine ry (y_asg rfl rfl) rfl rfl ?_
  refine reg_nil ?_
  refine fn_next ?_
  refine cw_ret ?_
  refine fn_then_ret ?_
  refine fn_retn (vs := [_, _]) rfl ⟨rfl, rfl, trivial⟩ rfl ?_
  exact ⟨14, rfl, by decide, H0.base⟩
 ·skip
  refine cw_skip ?_
  refine fn_next ?_
  refine cw_seq ?_
  refine cw_draw H0 [0, 1, 2, 3, 4, 5, 6, 7, 8, 9, 10, 11] [] (fun X HX => HX) (by kernel_rfl) (by kernel_rfl) (by rfl) ?_
  simp only [pick, List.getElem?_cons_succ, List.getElem?_cons_zero]
  refine hk_y (fun Y HY => y_mov rfl rfl) rfl rfl ?_
  refine hk_y (fun Y HY => y_mov rfl rfl) rfl rfl ?_
  refine hk_y (fun Y HY => y_len rfl Tryz.underlying22 rfl) rfl rfl ?_
  refine hk_y (fun Y HY => y_sub rfl rfl rfl (show _ = ((n - 4 : Nat) : Int) from (wi (by omega)).trans (by omega))) rfl rfl ?_
  refine hk_y (fun Y HY => y_sh rfl rfl rfl kfcrc2_1 (rfl) (by omega)) rfl rfl ?_
  refine hk_y (fun Y HY => y_mov rfl rfl) rfl rfl ?_
  refine hk_y (fun Y HY => y_mov rfl rfl) rfl rfl ?_
  refine hk_y (fun Y HY => y_len rfl Tryz.underlying22 rfl) rfl rfl ?_
  refine hk_y (fun Y HY => y_sub rfl rfl rfl (show _ = ((n - 4 : Nat) : Int) from (wi (by omega)).trans (by omega))) rfl rfl ?_
  refine hk_y (fun Y HY => y_sl rfl rfl rfl kfcrc2_1 (rfl) (by omega)) rfl rfl ?_
  refine hk_y (fun Y HY => y_asg rfl rfl) rfl rfl ?_
  refine hk_y (fun Y HY => y_asg rfl rfl) rfl rfl ?_
  refine hk_nil ?_
  intro w2 H3
  refine tv_nil ?_
  refine fn_next ?_
  refine cw_seq ?_
  refine cw_seq ?_
  refine cw_reg ?_
  refine ry (y_mov rfl rfl) rfl rfl ?_
  refine ry (y_mov rfl rfl) rfl rfl ?_
  refine reg_op (op_call (crcSum (subA A c 0 1) (n - 4) c (bs.take (n - 4)) _ (hg.below H3.base) (hpre.below H3.base) hlt hBt (by omega)) rfl kfcrc2_5 ⟨rfl, trivial⟩) rfl rfl ?_
  rintro _ w5 ⟨rfl, e4⟩
  have H6 := H3.ext e4
  refine reg_op (op_call (crcTail (crcM 0#32 (bs.take (n - 4))) _) rfl kfcrc2_6 ⟨rfl, trivial⟩) rfl rfl ?_
  rintro _ w8 ⟨A10, c11, rfl, k7⟩
  have H9 := H6.call k7
  refine reg_op (op_call (bytesEqual_any (subA A c (n - 4) 1) (n - (n - 4)) (c - (n - 4)) (bs.drop (n - 4)) _ 4 _ (tailB (crcM 0#32 (bs.take (n - 4)))) _ (hsuf.below H9.base) (by rw [List.length_drop]; omega) (okB_byt.1 hBd) (H9.rd (i := 0) rfl) rfl (tailB_byt _)) rfl kfcrc2_7 ⟨rfl, rfl, trivial⟩) rfl rfl ?_
  rintro _ w13 ⟨rfl, e12⟩
  have H14 := H9.ext e12
  refine ry (y_notd rfl rfl) rfl rfl ?_
  refine reg_nil ?_
  refine fn_next ?_
  refine cw_condd rfl (fun h15 => ?_) (fun h15 => ?_)
  ·skip
   refine cw_seq ?_
   refine cw_reg ?_
   refine ry (y_asg rfl rfl) rfl rfl ?_
   refine ry (y_asg rfl rfl) rfl rfl ?_
   refine reg_nil ?_
   refine fn_next ?_
   refine cw_ret ?_
   refine fn_then_ret ?_
   refine fn_retn (vs := [_, _]) rfl ⟨rfl, rfl, trivial⟩ rfl ?_
   exact ⟨10, rfl, by decide, H14.base⟩
  ·skip
   exact absurd ⟨by omega, by rw [hl]; exact (Classical.not_not.1 h15).symm⟩ hs

set_option maxRecDepth 100000 in
set_option maxHeartbeats 1000000 in
theorem refOpenOk (A : Option Addr) (n c : Nat) (bs : List Int) (w : World) (hb : Rd w A (vi .u8 bs)) (hl : bs.length = n) (hcap : n ≤ c) (hB : okB bs) (hn : n ≤ 90000000) (hs : seald bs) :
    Ret Tryz.prog 11 [.slice A n c] w (fun v w' => v = .tuple #[.slice (subA A c 0 1) (n - 4) c, .int .i64 0] ∧ Below w.heap.size w w') := by
 have hBt := okB_take hB (n - 4)
 have hBd := okB_drp hB (n - 4)
 have hpre := rd_hi (c := c) (k := n - 4) hb (by omega)
 have hsuf := rd_lo (c := c) (lo := n - 4) hb (by omega) (by omega)
 have hlt : (bs.take (n - 4)).length = n - 4 := by rw [List.length_take]; omega
 refine ret_enter Tryz.func11 rfl rfl rfl ?_
 have H0 := HS.start w
 refine cw_seq ?_
 refine cw_reg ?_
 refine ry (y_asg rfl rfl) rfl rfl ?_
 refine ry (y_asg rfl rfl) rfl rfl ?_
 refine reg_nil ?_
 refine fn_next ?_
 refine cw_seq ?_
 refine cw_seq ?_
 refine cw_reg ?_
 refine ry (y_mov rfl rfl) rfl rfl ?_
 refine ry (y_len rfl Tryz.underlying22 rfl) rfl rfl ?_
 refine ry (y_lss rfl rfl rfl) rfl rfl ?_
 refine reg_nil ?_
 refine fn_next ?_
 refine cw_condd rfl (fun h1 => ?_) (fun h1 => ?_)
 ·skip
  exact absurd hs.1 (by omega)
 ·skip
  refine cw_skip ?_
  refine fn_next ?_
  refine cw_seq ?_
  refine cw_reg ?_
  refine ry (y_mov rfl rfl) rfl rfl ?_
  refine ry (y_len rfl Tryz.underlying22 rfl) rfl rfl ?_
  refine ry (y_sub rfl rfl rfl (show _ = ((n - 4 : Nat) : Int) from (wi (by omega)).trans (by omega))) rfl rfl ?_
  refine ry (y_asg rfl rfl) rfl rfl ?_
  refine reg_nil ?_
  refine fn_next ?_
  refine cw_seq ?_
  refine cw_seq ?_
  refine cw_draw H0 [0, 1, 2, 3, 6, 7, 8, 9] [4, 5, 10] (fun X HX => HX) (by kernel_rfl) (by kernel_rfl) (by rfl) ?_
  simp only [pick, List.getElem?_cons_succ, List.getElem?_cons_zero]
  refine hk_y (fun Y HY => y_mov rfl rfl) rfl rfl ?_
  refine hk_y (fun Y HY => y_mov rfl rfl) rfl rfl ?_
  refine hk_y (fun Y HY => y_sh rfl rfl rfl kfcrc2_1 (rfl) (by omega)) rfl rfl ?_
  refine hk_q (qy_call (fun Y HY => refSum3 (subA A c 0 1) (n - 4) c (bs.take (n - 4)) _ (hpre.below HY.base) hlt hBt (by omega)) rfl kfcrc2_9 ⟨rfl, trivial⟩) rfl rfl ?_
  refine hk_y (fun Y HY => y_mov rfl rfl) rfl rfl ?_
  refine hk_y (fun Y HY => y_mov rfl rfl) rfl rfl ?_
  refine hk_y (fun Y HY => y_sl rfl rfl rfl kfcrc2_1 (rfl) (by omega)) rfl rfl ?_
  refine hk_y (fun Y HY => y_str rfl Tryz.underlying22 Tryz.underlying5 Tryz.underlying9 rfl (hsuf.below HY.base) (by rw [List.length_drop]; omega)) rfl rfl ?_
  refine hk_nil ?_
  intro w2 H3
  refine tv_op (op_call (refTail3 (crcM 0#32 (bs.take (n - 4))) _) rfl kfcrc2_10 ⟨rfl, trivial⟩) rfl rfl ?_
  rintro _ w5 ⟨A7, c8, rfl, k4⟩
  have H6 := H3.call k4
  refine ⟨(H6.pick (m := []) [] rfl (by decide)), fun w9 e11 => ?_⟩
  have H10 := H6.ext e11
  refine tv_op (Yd.op (y_str rfl Tryz.underlying22 Tryz.underlying5 Tryz.underlying9 rfl (H10.rd (i := 0) rfl) (rfl))) rfl rfl ?_
  rintro _ _ ⟨rfl, rfl⟩
  refine ⟨(H10.pick (m := []) [] rfl (by decide)), fun w12 e14 => ?_⟩
  have H13 := H10.ext e14
  refine tv_op (Yd.op (y_strne rfl rfl rfl (tailB_byt _) (okB_byt.1 hBd))) rfl rfl ?_
  rintro _ _ ⟨rfl, rfl⟩
  refine ⟨(H13.pick (m := []) [] rfl (by decide)), fun w15 e17 => ?_⟩
  have H16 := H13.ext e17
  refine tv_nil ?_
  refine fn_next ?_
  refine cw_condd rfl (fun h18 => ?_) (fun h18 => ?_)
  ·skip
   exact absurd (by rw [← hl]; exact hs.2) h18
  ·skip
   refine cw_skip ?_
   refine fn_next ?_
   refine cw_seq ?_
   refine cw_reg ?_
   refine ry (y_mov rfl rfl) rfl rfl ?_
   refine ry (y_mov rfl rfl) rfl rfl ?_
   refine ry (y_sh rfl rfl rfl kfcrc2_1 (rfl) (by omega)) rfl rfl ?_
   refine ry (y_asg rfl rfl) rfl rfl ?_
   refine ry (y_asg rfl rfl) rfl rfl ?_
   refine reg_nil ?_
   refine fn_next ?_
   refine cw_ret ?_
   refine fn_retn (vs := [_, _]) rfl ⟨rfl, rfl, trivial⟩ rfl ?_
   exact ⟨rfl, H16.base⟩

set_option maxRecDepth 100000 in
set_option maxHeartbeats 1000000 in
theorem refOpenBad (A : Option Addr) (n c : Nat) (bs : List Int) (w : World) (hb : Rd w A (vi .u8 bs)) (hl : bs.length = n) (hcap : n ≤ c) (hB : okB bs) (hn : n ≤ 90000000) (hs : ¬ seald bs) :
    Ret Tryz.prog 11 [.slice A n c] w (fun v w' => ∃ e : Int, v = .tuple #[.slice none 0 0, .int .i64 e] ∧ e ≠ 0 ∧ Below w.heap.size w w') := by
 have hBt := okB_take hB (n - 4)
 have hBd := okB_drp hB (n - 4)
 have hpre := rd_hi (c := c) (k := n - 4) hb (by omega)
 have hsuf := rd_lo (c := c) (lo := n - 4) hb (by omega) (by omega)
 have hlt : (bs.take (n - 4)).length = n - 4 := by rw [List.length_take]; omega
 refine ret_enter Tryz.func11 rfl rfl rfl ?_
 have H0 := HS.start w
 refine cw_seq ?_
 refine cw_reg ?_
 refine ry (y_asg rfl rfl) rfl rfl ?_
 refine ry (y_asg rfl rfl) rfl rfl ?_
 refine reg_nil ?_
 refine fn_next ?_
 refine cw_seq ?_
 refine cw_seq ?_
 refine cw_reg ?_
 refine ry (y_mov rfl rfl) rfl rfl ?_
 refine ry (y_len rfl Tryz.underlying22 rfl) rfl rfl ?_
 refine ry (y_lss rfl rfl rfl) rfl rfl ?_
 refine reg_nil ?_
 refine fn_next ?_
 refine cw_condd rfl (fun h1 => ?_) (fun h1 => ?_)
 ·skip
  refine cw_seq ?_
  refine cw_reg ?_
  refine ry (y_asg rfl rfl) rfl rfl ?_
  refine ry (y_asg rfl rfl) rfl rfl ?_
  refine reg_nil ?_
  refine fn_next ?_
  refine cw_ret ?_
  refine fn_then_ret ?_
  refine fn_retn (vs := [_, _]) rfl ⟨rfl, rfl, trivial⟩ rfl ?_
  exact ⟨14, rfl, by decide, H0.base⟩
 ·skip
  refine cw_skip ?_
  refine fn_next ?_
  refine cw_seq ?_
  refine cw_reg ?_
  refine ry (y_mov rfl rfl) rfl rfl ?_
  refine ry (y_len rfl Tryz.underlying22 rfl) rfl rfl ?_
  refine ry (y_sub rfl rfl rfl (show _ = ((n - 4 : Nat) : Int) from (wi (by omega)).trans (by omega))) rfl rfl ?_
  refine ry (y_asg rfl rfl) rfl rfl ?_
  refine reg_nil ?_
  refine fn_next ?_
  refine cw_seq ?_
  refine cw_seq ?_
  refine cw_draw H0 [0, 1, 2, 3, 6, 7, 8, 9] [4, 5, 10] (fun X HX => HX) (by kernel_rfl) (by kernel_rfl) (by rfl) ?_
  simp only [pick, List.getElem?_cons_succ, List.getElem?_cons_zero]
  refine hk_y (fun Y HY => y_mov rfl rfl) rfl rfl ?_
  refine hk_y (fun Y HY => y_mov rfl rfl) rfl rfl ?_
  refine hk_y (fun Y HY => y_sh rfl rfl rfl kfcrc2_1 (rfl) (by omega)) rfl rfl ?_
  refine hk_q (qy_call (fun Y HY => refSum3 (subA A c 0 1) (n - 4) c (bs.take (n - 4)) _ (hpre.below HY.base) hlt hBt (by omega)) rfl kfcrc2_9 ⟨rfl, trivial⟩) rfl rfl ?_
  refine hk_y (fun Y HY => y_mov rfl rfl) rfl rfl ?_
  refine hk_y (fun Y HY => y_mov rfl rfl) rfl rfl ?_
  refine hk_y (fun Y HY => y_sl rfl rfl rfl kfcrc2_1 (rfl) (by omega)) rfl rfl ?_
  refine hk_y (fun Y HY => y_str rfl Tryz.underlying22 Tryz.underlying5 Tryz.underlying9 rfl (hsuf.below HY.base) (by rw [List.length_drop]; omega)) rfl rfl ?_
  refine hk_nil ?_
  intro w2 H3
  refine tv_op (op_call (refTail3 (crcM 0#32 (bs.take (n - 4))) _) rfl kfcrc2_10 ⟨rfl, trivial⟩) rfl rfl ?_
  rintro _ w5 ⟨A7, c8, rfl, k4⟩
  have H6 := H3.call k4
  refine ⟨(H6.pick (m := []) [] rfl (by decide)), fun w9 e11 => ?_⟩
  have H10 := H6.ext e11
  refine tv_op (Yd.op (y_str rfl Tryz.underlying22 Tryz.underlying5 Tryz.underlying9 rfl (H10.rd (i := 0) rfl) (rfl))) rfl rfl ?_
  rintro _ _ ⟨rfl, rfl⟩
  refine ⟨(H10.pick (m := []) [] rfl (by decide)), fun w12 e14 => ?_⟩
  have H13 := H10.ext e14
  refine tv_op (Yd.op (y_strne rfl rfl rfl (tailB_byt _) (okB_byt.1 hBd))) rfl rfl ?_
  rintro _ _ ⟨rfl, rfl⟩
  refine ⟨(H13.pick (m := []) [] rfl (by decide)), fun w15 e17 => ?_⟩
  have H16 := H13.ext e17
  refine tv_nil ?_
  refine fn_next ?_
  refine cw_condd rfl (fun h18 => ?_) (fun h18 => ?_)
  ·skip
   refine cw_seq ?_
   refine cw_reg ?_
   refine ry (y_asg rfl rfl) rfl rfl ?_
   refine ry (y_asg rfl rfl) rfl rfl ?_
   refine reg_nil ?_
   refine fn_next ?_
   refine cw_ret ?_
   refine fn_then_ret ?_
   refine fn_retn (vs := [_, _]) rfl ⟨rfl, rfl, trivial⟩ rfl ?_
   exact ⟨10, rfl, by decide, H16.base⟩
  ·skip
   exact absurd ⟨by omega, by rw [hl]; exact Classical.not_not.1 h18⟩ hs

end Go.Proofs.YtbnjbgcadkdljaaGreatDoor
