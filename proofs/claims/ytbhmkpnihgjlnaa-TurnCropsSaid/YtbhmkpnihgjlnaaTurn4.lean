/- Layer 42: the reference's greater, cut out, put together. -/
import Derived.Test.YtbhmkpnihgjlnaaTurn3
set_option linter.unusedVariables false
set_option linter.unusedSimpArgs false
namespace Go.Proofs.Ytbhmkpnihgjlnaa
open Go Go.RowKit
theorem kfturn4_1 : (Try.prog.info? 25).bind (fun i => i.zero.map Value.cells) = some (List.toArray [(.int .i64 0), (.int .i64 0), (.slice none 0 0)]) := by kernel_rfl
theorem kfturn4_2 : szB Try.prog 25 3 = true := by kernel_rfl
theorem kfturn4_3 : aggB Try.prog 25 3 = true := by kernel_rfl
theorem kfturn4_4 : fldB Try.prog 25 0 0 = true := by kernel_rfl
theorem kfturn4_5 : oneB Try.prog 2 = true := by kernel_rfl
theorem kfturn4_6 : fldB Try.prog 25 1 1 = true := by kernel_rfl
theorem kfturn4_7 : fldB Try.prog 25 2 2 = true := by kernel_rfl
theorem kfturn4_8 : oneB Try.prog 22 = true := by kernel_rfl
theorem kfturn4_9 : elB Try.prog 22 1 = true := by kernel_rfl
theorem kfturn4_10 : (Try.prog.info? 2).map (fun i => (i.size, i.zero.map Value.cells)) = some (1, some (List.toArray [(.int .i64 0)])) := by kernel_rfl
theorem kfturn4_11 : (Try.prog.info? 2).map (fun i => (i.zero.map (·.cells.toList), i.size, i.bytes)) = some (some [(.int .i64 0)], 1, 8) := by kernel_rfl
theorem kfturn4_12 : szB Try.prog 22 1 = true := by kernel_rfl
theorem kfturn4_13 : aggB Try.prog 55 4 = true := by kernel_rfl
theorem kfturn4_14 : callB Try.prog 66 = true := by kernel_rfl
theorem kfturn4_15 : fldB Try.prog 55 2 2 = true := by kernel_rfl
theorem kfturn4_16 : fldB Try.prog 55 0 0 = true := by kernel_rfl
theorem kfturn4_17 : fldB Try.prog 55 3 3 = true := by kernel_rfl
theorem kfturn4_18 : fldB Try.prog 55 1 1 = true := by kernel_rfl
theorem kfturn4_19 : callB Try.prog 44 = true := by kernel_rfl
theorem kfturn4_20 : callB Try.prog 51 = true := by kernel_rfl
theorem mulb {a : Nat} {k : Int} (ha : a ≤ 1024) (hk : 0 ≤ k ∧ k ≤ 1024) : 0 ≤ (a : Int) * k ∧ (a : Int) * k ≤ 1048576 := by
  obtain ⟨q, rfl⟩ : ∃ q : Nat, k = q := ⟨k.toNat, by omega⟩
  have h1 : a * q ≤ 1024 * 1024 := Nat.mul_le_mul ha (by omega)
  rw [← Int.natCast_mul]
  omega

set_option maxRecDepth 100000 in
theorem mScale_arg (a h : Nat) (A : Option Addr) (cap : Nat) (V : List Int) (k : Int) (w : World) (s : SzG a h) (hr : Rd w A (vi .i64 V)) (hl : V.length = a * h) (hk : k < 1) :
    Ret Try.prog 33 [.agg #[.int .i64 (a : Int), .int .i64 (h : Int), .slice A (a * h) cap], .int .i64 k] w (fun z w' => z = .tuple #[.agg #[.int .i64 0, .int .i64 0, .slice none 0 0], .int .i64 11] ∧ Below w.heap.size w w') := by
  obtain ⟨s1, s2, s3, s4⟩ := id s
  have hm := s.mul
  refine ret_enter Try.func33 rfl rfl rfl ?_
  have H0 := HS.start w
  refine cw_seq ?_
  refine cw_reg ?_
  refine reg_op (op_box (cs := [.int _ _, .int _ _, .slice _ _ _]) H0 rfl rfl rfl) rfl rfl ?_
  rintro _ w2 ⟨b1, rfl, H3⟩
  refine reg_op (op_alloc H3 rfl kfturn4_1) rfl rfl ?_
  rintro _ w5 ⟨b4, rfl, H6⟩
  refine ry (y_asg rfl rfl) rfl rfl ?_
  refine reg_nil ?_
  refine fn_next ?_
  refine cw_seq ?_
  refine cw_seq ?_
  refine cw_reg ?_
  refine ry (y_mov rfl rfl) rfl rfl ?_
  refine ry (y_lss rfl rfl rfl) rfl rfl ?_
  refine reg_nil ?_
  refine fn_next ?_
  refine cw_condd rfl (fun h7 => ?_) (fun h7 => ?_)
  · skip
    refine cw_seq ?_
    refine cw_reg ?_
    refine ry (y_build (places := [(0, 1), (1, 1), (2, 1)]) (parts := []) (vs := []) (cs := [.int _ _, .int _ _, .slice _ _ _]) rfl Try.underlying25 (by kernel_rfl) kfturn4_1 rfl trivial rfl) rfl rfl ?_
    refine reg_op (op_st (i := 0) (vs := [.int _ _, .int _ _, .slice _ _ _]) H6 rfl rfl rfl rfl rfl kfturn4_2 rfl rfl rfl) rfl rfl ?_
    rintro _ w8 H9
    refine ry (y_asg rfl rfl) rfl rfl ?_
    refine reg_nil ?_
    refine fn_next ?_
    refine cw_ret ?_
    refine fn_then_ret ?_
    refine fn_retn (vs := [_, _]) rfl ⟨⟨_, rfl, load_agg (cs := [_, _, _]) kfturn4_3 rfl fun j v hv => by rw [Nat.zero_add]; exact H9.cell (i := 0) rfl hv⟩, rfl, trivial⟩ rfl ?_
    exact ⟨rfl, H9.base⟩
  · exact absurd hk h7

set_option maxRecDepth 100000 in
theorem mScale_size (a h : Nat) (A : Option Addr) (cap : Nat) (V : List Int) (k : Int) (w : World) (s : SzG a h) (hr : Rd w A (vi .i64 V)) (hl : V.length = a * h) (hk : 1 ≤ k) (hs : ¬ ((a : Int) * k ≤ 1024 ∧ (h : Int) * k ≤ 1024)) :
    Ret Try.prog 33 [.agg #[.int .i64 (a : Int), .int .i64 (h : Int), .slice A (a * h) cap], .int .i64 k] w (fun z w' => z = .tuple #[.agg #[.int .i64 0, .int .i64 0, .slice none 0 0], .int .i64 3] ∧ Below w.heap.size w w') := by
  obtain ⟨s1, s2, s3, s4⟩ := id s
  have hm := s.mul
  refine ret_enter Try.func33 rfl rfl rfl ?_
  have H0 := HS.start w
  refine cw_seq ?_
  refine cw_reg ?_
  refine reg_op (op_box (cs := [.int _ _, .int _ _, .slice _ _ _]) H0 rfl rfl rfl) rfl rfl ?_
  rintro _ w2 ⟨b1, rfl, H3⟩
  refine reg_op (op_alloc H3 rfl kfturn4_1) rfl rfl ?_
  rintro _ w5 ⟨b4, rfl, H6⟩
  refine ry (y_asg rfl rfl) rfl rfl ?_
  refine reg_nil ?_
  refine fn_next ?_
  refine cw_seq ?_
  refine cw_seq ?_
  refine cw_reg ?_
  refine ry (y_mov rfl rfl) rfl rfl ?_
  refine ry (y_lss rfl rfl rfl) rfl rfl ?_
  refine reg_nil ?_
  refine fn_next ?_
  refine cw_condd rfl (fun h7 => ?_) (fun h7 => ?_)
  · exfalso; omega
  · skip
    refine cw_skip ?_
    refine fn_next ?_
    refine cw_seq ?_
    refine cw_seq ?_
    refine cw_reg ?_
    refine ry (y_mov rfl rfl) rfl rfl ?_
    refine ry (y_gtr rfl rfl rfl) rfl rfl ?_
    refine ry (y_mov rfl rfl) rfl rfl ?_
    refine rg_splitd (d := 14) rfl (fun h8 => ?_) (fun h8 => ?_)
    · skip
      refine rg_off rfl rfl rfl rfl rfl ?_
      refine rg_off rfl rfl rfl rfl rfl ?_
      refine rg_off rfl rfl rfl rfl rfl ?_
      refine rg_off rfl rfl rfl rfl rfl ?_
      refine rg_off rfl rfl rfl rfl rfl ?_
      refine ry (y_pick rfl rfl rfl) rfl rfl ?_
      refine ry (y_mov rfl rfl) rfl rfl ?_
      refine rg_off rfl rfl rfl rfl rfl ?_
      refine rg_off rfl rfl rfl rfl rfl ?_
      refine rg_off rfl rfl rfl rfl rfl ?_
      refine rg_off rfl rfl rfl rfl rfl ?_
      refine rg_off rfl rfl rfl rfl rfl ?_
      refine ry (y_pick rfl rfl rfl) rfl rfl ?_
      refine reg_nil ?_
      refine fn_next ?_
      refine cw_condt rfl ?_
      refine cw_seq ?_
      refine cw_reg ?_
      refine ry (y_build (places := [(0, 1), (1, 1), (2, 1)]) (parts := []) (vs := []) (cs := [.int _ _, .int _ _, .slice _ _ _]) rfl Try.underlying25 (by kernel_rfl) kfturn4_1 rfl trivial rfl) rfl rfl ?_
      refine reg_op (op_st (i := 0) (vs := [.int _ _, .int _ _, .slice _ _ _]) H6 rfl rfl rfl rfl rfl kfturn4_2 rfl rfl rfl) rfl rfl ?_
      rintro _ w9 H10
      refine ry (y_asg rfl rfl) rfl rfl ?_
      refine reg_nil ?_
      refine fn_next ?_
      refine cw_ret ?_
      refine fn_then_ret ?_
      refine fn_retn (vs := [_, _]) rfl ⟨⟨_, rfl, load_agg (cs := [_, _, _]) kfturn4_3 rfl fun j v hv => by rw [Nat.zero_add]; exact H10.cell (i := 0) rfl hv⟩, rfl, trivial⟩ rfl ?_
      exact ⟨rfl, H10.base⟩
    · skip
      refine rgy (y_fa rfl rfl kfturn4_4 rfl) rfl rfl rfl rfl ?_
      refine rgy (y_ld rfl rfl kfturn4_5 (H6.cell (i := 1) rfl rfl)) rfl rfl rfl rfl ?_
      refine rgy (y_mov rfl rfl) rfl rfl rfl rfl ?_
      refine rgy (y_mul rfl rfl rfl (wi (by have := mulb (a := a) (k := k) (by omega) (by omega); omega))) rfl rfl rfl rfl ?_
      refine rgy (y_gtr rfl rfl rfl) rfl rfl rfl rfl ?_
      refine ry (y_pick rfl rfl rfl) rfl rfl ?_
      refine ry (y_mov rfl rfl) rfl rfl ?_
      refine rg_splitd (d := 21) rfl (fun h11 => ?_) (fun h11 => ?_)
      · skip
        refine rg_off rfl rfl rfl rfl rfl ?_
        refine rg_off rfl rfl rfl rfl rfl ?_
        refine rg_off rfl rfl rfl rfl rfl ?_
        refine rg_off rfl rfl rfl rfl rfl ?_
        refine rg_off rfl rfl rfl rfl rfl ?_
        refine ry (y_pick rfl rfl rfl) rfl rfl ?_
        refine reg_nil ?_
        refine fn_next ?_
        refine cw_condt rfl ?_
        refine cw_seq ?_
        refine cw_reg ?_
        refine ry (y_build (places := [(0, 1), (1, 1), (2, 1)]) (parts := []) (vs := []) (cs := [.int _ _, .int _ _, .slice _ _ _]) rfl Try.underlying25 (by kernel_rfl) kfturn4_1 rfl trivial rfl) rfl rfl ?_
        refine reg_op (op_st (i := 0) (vs := [.int _ _, .int _ _, .slice _ _ _]) H6 rfl rfl rfl rfl rfl kfturn4_2 rfl rfl rfl) rfl rfl ?_
        rintro _ w12 H13
        refine ry (y_asg rfl rfl) rfl rfl ?_
        refine reg_nil ?_
        refine fn_next ?_
        refine cw_ret ?_
        refine fn_then_ret ?_
        refine fn_retn (vs := [_, _]) rfl ⟨⟨_, rfl, load_agg (cs := [_, _, _]) kfturn4_3 rfl fun j v hv => by rw [Nat.zero_add]; exact H13.cell (i := 0) rfl hv⟩, rfl, trivial⟩ rfl ?_
        exact ⟨rfl, H13.base⟩
      · skip
        refine rgy (y_fa rfl rfl kfturn4_6 rfl) rfl rfl rfl rfl ?_
        refine rgy (y_ld rfl rfl kfturn4_5 (H6.cell (i := 1) rfl rfl)) rfl rfl rfl rfl ?_
        refine rgy (y_mov rfl rfl) rfl rfl rfl rfl ?_
        refine rgy (y_mul rfl rfl rfl (wi (by have := mulb (a := h) (k := k) (by omega) (by omega); omega))) rfl rfl rfl rfl ?_
        refine rgy (y_gtr rfl rfl rfl) rfl rfl rfl rfl ?_
        refine ry (y_pick rfl rfl rfl) rfl rfl ?_
        refine reg_nil ?_
        refine fn_next ?_
        refine cw_condd rfl (fun h14 => ?_) (fun h14 => ?_)
        · skip
          refine cw_seq ?_
          refine cw_reg ?_
          refine ry (y_build (places := [(0, 1), (1, 1), (2, 1)]) (parts := []) (vs := []) (cs := [.int _ _, .int _ _, .slice _ _ _]) rfl Try.underlying25 (by kernel_rfl) kfturn4_1 rfl trivial rfl) rfl rfl ?_
          refine reg_op (op_st (i := 0) (vs := [.int _ _, .int _ _, .slice _ _ _]) H6 rfl rfl rfl rfl rfl kfturn4_2 rfl rfl rfl) rfl rfl ?_
          rintro _ w15 H16
          refine ry (y_asg rfl rfl) rfl rfl ?_
          refine reg_nil ?_
          refine fn_next ?_
          refine cw_ret ?_
          refine fn_then_ret ?_
          refine fn_retn (vs := [_, _]) rfl ⟨⟨_, rfl, load_agg (cs := [_, _, _]) kfturn4_3 rfl fun j v hv => by rw [Nat.zero_add]; exact H16.cell (i := 0) rfl hv⟩, rfl, trivial⟩ rfl ?_
          exact ⟨rfl, H16.base⟩
        · exfalso; omega

set_option maxRecDepth 100000 in
theorem mScale_ok (a h : Nat) (A : Option Addr) (cap : Nat) (V : List Int) (k : Nat) (w : World) (s : SzG a h) (hr : Rd w A (vi .i64 V)) (hl : V.length = a * h) (hk : 1 ≤ k) (hs1 : a * k ≤ 1024) (hs2 : h * k ≤ 1024) :
    Ret Try.prog 33 [.agg #[.int .i64 (a : Int), .int .i64 (h : Int), .slice A (a * h) cap], .int .i64 (k : Int)] w (fun z w' => ∃ A' cap', z = .tuple #[.agg #[.int .i64 ((a * k : Nat) : Int), .int .i64 ((h * k : Nat) : Int), .slice A' (a * k * (h * k)) cap'], .int .i64 0] ∧ HS w w' [.row A' (a * k * (h * k)) cap' (vi .i64 (scV V a h k)) 2 1]) := by
  obtain ⟨s1, s2, s3, s4⟩ := id s
  have hm := s.mul
  have y1 : 1 * 1 ≤ a * k := Nat.mul_le_mul s1 hk
  have y2 : 1 * 1 ≤ h * k := Nat.mul_le_mul s3 hk
  have y3 : (a * k) * (h * k) ≤ 1024 * 1024 := Nat.mul_le_mul hs1 hs2
  have y4 : 1 * k ≤ a * k := Nat.mul_le_mul_right _ s1
  refine ret_enter Try.func33 rfl rfl rfl ?_
  have H0 := HS.start w
  refine cw_seq ?_
  refine cw_reg ?_
  refine reg_op (op_box (cs := [.int _ _, .int _ _, .slice _ _ _]) H0 rfl rfl rfl) rfl rfl ?_
  rintro _ w2 ⟨b1, rfl, H3⟩
  refine reg_op (op_alloc H3 rfl kfturn4_1) rfl rfl ?_
  rintro _ w5 ⟨b4, rfl, H6⟩
  refine ry (y_asg rfl rfl) rfl rfl ?_
  refine reg_nil ?_
  refine fn_next ?_
  refine cw_seq ?_
  refine cw_seq ?_
  refine cw_reg ?_
  refine ry (y_mov rfl rfl) rfl rfl ?_
  refine ry (y_lss rfl rfl rfl) rfl rfl ?_
  refine reg_nil ?_
  refine fn_next ?_
  refine cw_condd rfl (fun h7 => ?_) (fun h7 => ?_)
  · exfalso; omega
  · skip
    refine cw_skip ?_
    refine fn_next ?_
    refine cw_seq ?_
    refine cw_seq ?_
    refine cw_reg ?_
    refine ry (y_mov rfl rfl) rfl rfl ?_
    refine ry (y_gtr rfl rfl rfl) rfl rfl ?_
    refine ry (y_mov rfl rfl) rfl rfl ?_
    refine rg_splitd (d := 14) rfl (fun h8 => ?_) (fun h8 => ?_)
    · exfalso; omega
    · skip
      refine rgy (y_fa rfl rfl kfturn4_4 rfl) rfl rfl rfl rfl ?_
      refine rgy (y_ld rfl rfl kfturn4_5 (H6.cell (i := 1) rfl rfl)) rfl rfl rfl rfl ?_
      refine rgy (y_mov rfl rfl) rfl rfl rfl rfl ?_
      refine rgy (y_mul rfl rfl rfl (mulN (by omega))) rfl rfl rfl rfl ?_
      refine rgy (y_gtr rfl rfl rfl) rfl rfl rfl rfl ?_
      refine ry (y_pick rfl rfl rfl) rfl rfl ?_
      refine ry (y_mov rfl rfl) rfl rfl ?_
      refine rg_splitd (d := 21) rfl (fun h9 => ?_) (fun h9 => ?_)
      · exfalso; omega
      · skip
        refine rgy (y_fa rfl rfl kfturn4_6 rfl) rfl rfl rfl rfl ?_
        refine rgy (y_ld rfl rfl kfturn4_5 (H6.cell (i := 1) rfl rfl)) rfl rfl rfl rfl ?_
        refine rgy (y_mov rfl rfl) rfl rfl rfl rfl ?_
        refine rgy (y_mul rfl rfl rfl (mulN (by omega))) rfl rfl rfl rfl ?_
        refine rgy (y_gtr rfl rfl rfl) rfl rfl rfl rfl ?_
        refine ry (y_pick rfl rfl rfl) rfl rfl ?_
        refine reg_nil ?_
        refine fn_next ?_
        refine cw_condd rfl (fun h10 => ?_) (fun h10 => ?_)
        · exfalso; omega
        · skip
          refine cw_skip ?_
          refine fn_next ?_
          refine cw_seq ?_
          refine cw_reg ?_
          refine ry (y_fa rfl rfl kfturn4_4 rfl) rfl rfl ?_
          refine ry (y_ld rfl rfl kfturn4_5 (H6.cell (i := 1) rfl rfl)) rfl rfl ?_
          refine ry (y_mov rfl rfl) rfl rfl ?_
          refine ry (y_mul rfl rfl rfl (mulN (by omega))) rfl rfl ?_
          refine ry (y_fa rfl rfl kfturn4_6 rfl) rfl rfl ?_
          refine ry (y_ld rfl rfl kfturn4_5 (H6.cell (i := 1) rfl rfl)) rfl rfl ?_
          refine ry (y_mov rfl rfl) rfl rfl ?_
          refine ry (y_mul rfl rfl rfl (mulN (by omega))) rfl rfl ?_
          refine ry (y_build (places := [(0, 1), (1, 1), (2, 1)]) (parts := [(0, _), (1, _)]) (vs := [(0, _), (1, _)]) (cs := [.int _ _, .int _ _, .slice _ _ _]) rfl Try.underlying25 (by kernel_rfl) kfturn4_1 rfl ⟨rfl, rfl, trivial⟩ rfl) rfl rfl ?_
          refine reg_op (op_alloc H6 rfl kfturn4_1) rfl rfl ?_
          rintro _ w12 ⟨b11, rfl, H13⟩
          refine reg_op (op_st (i := 0) (vs := [.int _ _, .int _ _, .slice _ _ _]) H13 rfl rfl rfl rfl rfl kfturn4_2 rfl rfl rfl) rfl rfl ?_
          rintro _ w14 H15
          refine reg_nil ?_
          refine fn_next ?_
          refine cw_seq ?_
          refine cw_seq ?_
          refine cw_reg ?_
          refine ry (y_asg rfl rfl) rfl rfl ?_
          refine reg_nil ?_
          refine fn_next ?_
          refine cw_block ?_
          have Hn16 := H15.nilrow 2 1
          have hE17 : HS w w14 [Ob.row none (0 * (a * k)) 0 (vi .i64 (mN (V) a (a * k) (fun x _ => x / k) (fun _ y => y / k) (0 * (a * k)))) 2 1, Ob.blk b11 [.int .i64 ((a * k : Nat) : Int), .int .i64 ((h * k : Nat) : Int), .slice none (0 * (a * k)) 0] 25, Ob.blk b1 [.int .i64 (a : Int), .int .i64 (h : Int), .slice A (a * h) cap] 25, Ob.blk b4 [.int .i64 0, .int .i64 0, .slice none 0 0] 25] := by rw [Nat.zero_mul]; exact (Hn16.pick (m := [_, _, _, _]) [0, 1, 3, 2] rfl (by decide))
          refine cw_loopJ [7, 8, 38, 39, 40, 41, 42, 43, 44, 45, 46, 47, 48, 49, 50, 51, 52, 53, 54, 55, 56, 57, 58, 59, 60, 61, 62, 63, 64, 65, 66, 67, 68] (fun M wl ml => ∃ (y : Nat) (A1 : Option Addr) (c1 : Nat), M = [(7, .int .i64 (y : Int))] ∧ HS w wl [Ob.row A1 (y * (a * k)) c1 (vi .i64 (mN (V) a (a * k) (fun x _ => x / k) (fun _ y => y / k) (y * (a * k)))) 2 1, Ob.blk b11 [.int .i64 ((a * k : Nat) : Int), .int .i64 ((h * k : Nat) : Int), .slice A1 (y * (a * k)) c1] 25, Ob.blk b1 [.int .i64 (a : Int), .int .i64 (h : Int), .slice A (a * h) cap] 25, Ob.blk b4 [.int .i64 0, .int .i64 0, .slice none 0 0] 25] ∧ (y ≤ (h * k)) ∧ ml = (h * k) - y) ⟨0, _, _, rfl, hE17, Nat.zero_le _, rfl⟩ ⟨rfl, trivial⟩ ?_
          rintro M w18 m20 ⟨y, A1, c1, rfl, H19, hy0, rfl⟩
          refine cw_seq ?_
          refine cw_seq ?_
          refine cw_reg ?_
          refine ry (y_mov rfl rfl) rfl rfl ?_
          refine ry (y_fa rfl rfl kfturn4_6 rfl) rfl rfl ?_
          refine ry (y_ld rfl rfl kfturn4_5 (H19.cell (i := 1) rfl rfl)) rfl rfl ?_
          refine ry (y_lss rfl rfl rfl) rfl rfl ?_
          refine reg_nil ?_
          refine fn_next ?_
          refine cw_condd rfl (fun h21 => ?_) (fun h21 => ?_)
          · skip
            have hy : y < h * k := by omega
            have hyk := (inn_sc (a := a) (h := h) hk 0 y (by omega) hy).2
            refine cw_skip ?_
            refine fn_next ?_
            refine cw_seq ?_
            refine cw_block ?_
            refine cw_seq ?_
            refine cw_reg ?_
            refine ry (y_asg rfl rfl) rfl rfl ?_
            refine reg_nil ?_
            refine fn_next ?_
            refine cw_block ?_
            refine cw_loopJ [8, 44, 45, 46, 47, 48, 49, 50, 51, 52, 53, 54, 55, 56, 57, 58, 59, 60, 61, 62, 63, 64, 65, 66, 67, 68] (fun M wl ml => ∃ (x : Nat) (A2 : Option Addr) (c2 : Nat), M = [(8, .int .i64 ((x : Int)))] ∧ HS w wl [Ob.row A2 (y * (a * k) + x) c2 (vi .i64 (mN (V) a (a * k) (fun x _ => x / k) (fun _ y => y / k) (y * (a * k) + x))) 2 1, Ob.blk b11 [.int .i64 ((a * k : Nat) : Int), .int .i64 ((h * k : Nat) : Int), .slice A2 (y * (a * k) + x) c2] 25, Ob.blk b1 [.int .i64 (a : Int), .int .i64 (h : Int), .slice A (a * h) cap] 25, Ob.blk b4 [.int .i64 0, .int .i64 0, .slice none 0 0] 25] ∧ (x ≤ (a * k)) ∧ ml = (a * k) - x) ⟨0, _, _, rfl, H19, Nat.zero_le _, rfl⟩ ⟨si (by omega), trivial⟩ ?_
            rintro M w22 m24 ⟨x, A2, c2, rfl, H23, hx0, rfl⟩
            refine cw_seq ?_
            refine cw_seq ?_
            refine cw_reg ?_
            refine ry (y_mov rfl rfl) rfl rfl ?_
            refine ry (y_fa rfl rfl kfturn4_4 rfl) rfl rfl ?_
            refine ry (y_ld rfl rfl kfturn4_5 (H23.cell (i := 1) rfl rfl)) rfl rfl ?_
            refine ry (y_lss rfl rfl rfl) rfl rfl ?_
            refine reg_nil ?_
            refine fn_next ?_
            refine cw_condd rfl (fun h25 => ?_) (fun h25 => ?_)
            · skip
              have hx : x < a * k := by omega
              have hxk := (inn_sc (a := a) (h := h) hk x y hx hy).1
              have hcl := cell_lt (x := x / k) (y := y / k) (a := a) (h := h) hxk hyk
              have hcl2 := cell_lt (x := x) (y := y) (a := a * k) (h := h * k) hx hy
              have hgi := vi_get (k := .i64) (zs := V) (i := y / k * a + x / k) (by rw [hl]; exact hcl)
              refine cw_skip ?_
              refine fn_next ?_
              refine cw_seq ?_
              refine cw_block ?_
              refine cw_drawT H23 [0, 2, 3, 4, 5, 6, 7, 8, 9, 10, 11, 12, 13, 14, 15] (.alt (.step 1 (.step 16 (.step 17 (.step 18 (.step 19 (.leaf)))))) (.step 16 (.step 1 (.step 17 (.step 18 (.step 19 (.leaf))))))) (fun X HX => (HX.pick (m := [_, _]) [2, 3] rfl (by decide))) (by kernel_rfl) (by kernel_rfl) (by rfl) ?_
              simp only [pick, List.getElem?_cons_succ, List.getElem?_cons_zero]
              refine hk_y (fun Y HY => y_fa rfl rfl kfturn4_7 rfl) rfl rfl ?_
              refine hk_y (fun Y HY => y_fa rfl rfl kfturn4_7 rfl) rfl rfl ?_
              refine hk_y (fun Y HY => y_ld rfl rfl kfturn4_8 (HY.cell (i := 0) rfl rfl)) rfl rfl ?_
              refine hk_y (fun Y HY => y_mov rfl rfl) rfl rfl ?_
              refine hk_y (fun Y HY => y_mov rfl rfl) rfl rfl ?_
              refine hk_y (fun Y HY => y_quo rfl rfl rfl (by omega) (quoN (by omega))) rfl rfl ?_
              refine hk_y (fun Y HY => y_fa rfl rfl kfturn4_4 rfl) rfl rfl ?_
              refine hk_y (fun Y HY => y_ld rfl rfl kfturn4_5 (HY.cell (i := 0) rfl rfl)) rfl rfl ?_
              refine hk_y (fun Y HY => y_mul rfl rfl rfl (mulN (by generalize y / k = u at *; generalize x / k = v at *; omega))) rfl rfl ?_
              refine hk_y (fun Y HY => y_mov rfl rfl) rfl rfl ?_
              refine hk_y (fun Y HY => y_mov rfl rfl) rfl rfl ?_
              refine hk_y (fun Y HY => y_quo rfl rfl rfl (by omega) (quoN (by omega))) rfl rfl ?_
              refine hk_y (fun Y HY => y_add rfl rfl rfl (addN (by generalize y / k * a = u at *; generalize x / k = v at *; omega))) rfl rfl ?_
              refine hk_y (fun Y HY => y_iar (i := y / k * a + x / k) (hr.below HY.base) rfl rfl rfl kfturn4_9 (rfl) (by generalize y / k * a = u at *; generalize x / k = v at *; omega) (Nat.mul_one _) (hgi)) rfl rfl ?_
              refine hk_y (fun Y HY => y_ldr (hr.below HY.base) rfl rfl kfturn4_5 (hgi)) rfl rfl ?_
              refine hkt_nil [51, 66, 67, 68] (fun M wl => ∃ (A2k : Option Addr) (c2k : Nat), M = [] ∧ HS w wl [Ob.row A2k (y * (a * k) + x + 1) c2k (vi .i64 (mN (V) a (a * k) (fun x _ => x / k) (fun _ y => y / k) (y * (a * k) + x)) ++ [.int .i64 (nth V (y / k * a + x / k))]) 2 1, Ob.blk b11 [.int .i64 ((a * k : Nat) : Int), .int .i64 ((h * k : Nat) : Int), .slice A2k (y * (a * k) + x + 1) c2k] 25, Ob.blk b1 [.int .i64 (a : Int), .int .i64 (h : Int), .slice A (a * h) cap] 25, Ob.blk b4 [.int .i64 0, .int .i64 0, .slice none 0 0] 25]) (fun wX HX => ?_) ?_
              · skip
                refine tt_alt ?_ ?_
                · skip
                  refine tt_op rfl (Yd.op (y_ld rfl rfl kfturn4_8 (HX.cell (i := 1) rfl rfl))) rfl rfl ?_
                  rintro _ _ ⟨rfl, rfl⟩
                  refine ⟨(HX.pick (m := [_, _]) [2, 3] rfl (by decide)), fun w26 e28 => ?_⟩
                  have H27 := HX.ext e28
                  refine tt_op rfl (op_lit (parts := [(0, _)]) (vs := [(0, _)]) (cs := [.int _ _]) H27 rfl Try.underlying22 kfturn4_10 rfl ⟨rfl, trivial⟩ rfl rfl) rfl rfl ?_
                  rintro _ w30 ⟨b29, rfl, H31⟩
                  have H32 := H31.asrow (m := 1) (size := 1) rfl (by decide)
                  refine ⟨(H32.pick (m := [_, _]) [3, 4] rfl (by decide)), fun w33 e35 => ?_⟩
                  have H34 := H32.ext e35
                  refine tt_op rfl (op_app (i := 1) H34 rfl rfl rfl rfl (H34.rd (i := 0) rfl) (rfl) (rfl) Try.underlying22 kfturn4_11 rfl rfl (by unfold maxLen; omega) (by omega)) rfl rfl ?_
                  rintro _ w38 ⟨A36, c37, rfl, H39⟩
                  refine ⟨(H39.pick (m := [_, _]) [3, 4] rfl (by decide)), fun w40 e42 => ?_⟩
                  have H41 := H39.ext e42
                  refine tt_op rfl (Yd.op (y_fa rfl rfl kfturn4_7 rfl)) rfl rfl ?_
                  rintro _ _ ⟨rfl, rfl⟩
                  refine ⟨(H41.pick (m := [_, _]) [3, 4] rfl (by decide)), fun w43 e45 => ?_⟩
                  have H44 := H41.ext e45
                  refine tt_op rfl (op_st (i := 2) (vs := [.slice _ _ _]) H44 rfl rfl rfl rfl rfl kfturn4_12 rfl rfl rfl) rfl rfl ?_
                  rintro _ w46 H47
                  refine ⟨(H47.pick (m := [_, _]) [3, 4] rfl (by decide)), fun w48 e50 => ?_⟩
                  have H49 := H47.ext e50
                  exact tt_leaf ⟨A36, c37, rfl, (H49.pick (m := [_, _, _, _]) [1, 2, 3, 4] rfl (by decide))⟩ trivial (by repeat (first | exact kp_refl | refine kp_app rfl rfl ?_ | refine kp_cons rfl ?_))
                refine tt_op rfl (op_lit (parts := [(0, _)]) (vs := [(0, _)]) (cs := [.int _ _]) HX rfl Try.underlying22 kfturn4_10 rfl ⟨rfl, trivial⟩ rfl rfl) rfl rfl ?_
                rintro _ w52 ⟨b51, rfl, H53⟩
                have H54 := H53.asrow (m := 1) (size := 1) rfl (by decide)
                refine ⟨(H54.pick (m := [_, _]) [3, 4] rfl (by decide)), fun w55 e57 => ?_⟩
                have H56 := H54.ext e57
                refine tt_op rfl (Yd.op (y_ld rfl rfl kfturn4_8 (H56.cell (i := 2) rfl rfl))) rfl rfl ?_
                rintro _ _ ⟨rfl, rfl⟩
                refine ⟨(H56.pick (m := [_, _]) [3, 4] rfl (by decide)), fun w58 e60 => ?_⟩
                have H59 := H56.ext e60
                refine tt_op rfl (op_app (i := 1) H59 rfl rfl rfl rfl (H59.rd (i := 0) rfl) (rfl) (rfl) Try.underlying22 kfturn4_11 rfl rfl (by unfold maxLen; omega) (by omega)) rfl rfl ?_
                rintro _ w63 ⟨A61, c62, rfl, H64⟩
                refine ⟨(H64.pick (m := [_, _]) [3, 4] rfl (by decide)), fun w65 e67 => ?_⟩
                have H66 := H64.ext e67
                refine tt_op rfl (Yd.op (y_fa rfl rfl kfturn4_7 rfl)) rfl rfl ?_
                rintro _ _ ⟨rfl, rfl⟩
                refine ⟨(H66.pick (m := [_, _]) [3, 4] rfl (by decide)), fun w68 e70 => ?_⟩
                have H69 := H66.ext e70
                refine tt_op rfl (op_st (i := 2) (vs := [.slice _ _ _]) H69 rfl rfl rfl rfl rfl kfturn4_12 rfl rfl rfl) rfl rfl ?_
                rintro _ w71 H72
                refine ⟨(H72.pick (m := [_, _]) [3, 4] rfl (by decide)), fun w73 e75 => ?_⟩
                have H74 := H72.ext e75
                exact tt_leaf ⟨A61, c62, rfl, (H74.pick (m := [_, _, _, _]) [1, 2, 3, 4] rfl (by decide))⟩ trivial (by repeat (first | exact kp_refl | refine kp_app rfl rfl ?_ | refine kp_cons rfl ?_))
              · skip
                rintro M w77 ⟨A2k, c2k, rfl, H76⟩
                refine fn_block ?_
                refine fn_next ?_
                refine cw_reg ?_
                refine ry (y_mov rfl rfl) rfl rfl ?_
                refine ry (y_add rfl rfl rfl (wi (by omega))) rfl rfl ?_
                refine ry (y_asg rfl rfl) rfl rfl ?_
                refine reg_nil ?_
                rw [vi_snoc, mN_succ hx] at H76
                refine fn_roundJ ⟨x + 1, _, _, rfl, H76, by omega, rfl⟩ ⟨si (by omega), trivial⟩ (by omega) (by repeat (first | exact kp_refl | refine kp_app rfl rfl ?_ | refine kp_cons rfl ?_)) rfl
            · skip
              have hxe : x = a * k := by omega
              subst hxe
              refine cw_exit ?_
              refine fn_then_exit (fn_then_exit (fn_block_exit ?_))
              refine fn_block ?_
              refine fn_next ?_
              refine cw_reg ?_
              refine ry (y_mov rfl rfl) rfl rfl ?_
              refine ry (y_add rfl rfl rfl (wi (by omega))) rfl rfl ?_
              refine ry (y_asg rfl rfl) rfl rfl ?_
              refine reg_nil ?_
              rw [← Nat.succ_mul] at H23
              refine fn_roundJ ⟨y + 1, _, _, rfl, H23, by omega, rfl⟩ ⟨rfl, trivial⟩ (by omega) (by repeat (first | exact kp_refl | refine kp_app rfl rfl ?_ | refine kp_cons rfl ?_)) rfl
          · skip
            have hye : y = h * k := by omega
            subst hye
            refine cw_exit ?_
            refine fn_then_exit (fn_then_exit (fn_block_exit ?_))
            refine fn_next ?_
            refine cw_seq ?_
            refine cw_reg ?_
            refine ry (y_ldb (i := 1) (cs := [_, _, _]) H19 rfl rfl kfturn4_3 rfl rfl) rfl rfl ?_
            refine reg_op (op_st (i := 3) (vs := [.int _ _, .int _ _, .slice _ _ _]) H19 rfl rfl rfl rfl rfl kfturn4_2 rfl rfl rfl) rfl rfl ?_
            rintro _ w78 H79
            refine ry (y_asg rfl rfl) rfl rfl ?_
            refine reg_nil ?_
            refine fn_next ?_
            refine cw_ret ?_
            refine fn_retn (vs := [_, _]) rfl ⟨⟨_, rfl, load_agg (cs := [_, _, _]) kfturn4_3 rfl fun j v hv => by rw [Nat.zero_add]; exact H79.cell (i := 3) rfl hv⟩, rfl, trivial⟩ rfl ?_
            have Hz := (H79.pick (m := [_]) [0] rfl (by decide))
            have hcm : h * k * (a * k) = a * k * (h * k) := Nat.mul_comm _ _
            refine ⟨_, _, by rw [hcm], ?_⟩
            rw [hcm] at Hz
            exact Hz

set_option maxRecDepth 100000 in
theorem mCrop_no (a h : Nat) (A : Option Addr) (cap : Nat) (V : List Int) (x0 y0 x1 y1 : Int) (w : World) (s : SzG a h) (hr : Rd w A (vi .i64 V)) (hl : V.length = a * h) (hw : ¬ withinC x0 y0 x1 y1 a h = 0) :
    Ret Try.prog 31 [.agg #[.int .i64 (a : Int), .int .i64 (h : Int), .slice A (a * h) cap], .agg #[.int .i64 x0, .int .i64 y0, .int .i64 x1, .int .i64 y1]] w (fun z w' => z = .tuple #[.agg #[.int .i64 0, .int .i64 0, .slice none 0 0], .int .i64 (withinC x0 y0 x1 y1 a h)] ∧ Below w.heap.size w w') := by
  refine ret_enter Try.func31 rfl rfl rfl ?_
  have H0 := HS.start w
  refine cw_seq ?_
  refine cw_reg ?_
  refine reg_op (op_box (cs := [.int _ _, .int _ _, .slice _ _ _]) H0 rfl rfl rfl) rfl rfl ?_
  rintro _ w2 ⟨b1, rfl, H3⟩
  refine reg_op (op_box (cs := [.int _ _, .int _ _, .int _ _, .int _ _]) H3 rfl rfl rfl) rfl rfl ?_
  rintro _ w5 ⟨b4, rfl, H6⟩
  refine reg_op (op_alloc H6 rfl kfturn4_1) rfl rfl ?_
  rintro _ w8 ⟨b7, rfl, H9⟩
  refine ry (y_asg rfl rfl) rfl rfl ?_
  refine reg_nil ?_
  refine fn_next ?_
  refine cw_seq ?_
  refine cw_reg ?_
  refine ry (y_ldb (i := 2) (cs := [_, _, _]) H9 rfl rfl kfturn4_3 rfl rfl) rfl rfl ?_
  refine ry (y_ldb (i := 1) (cs := [_, _, _, _]) H9 rfl rfl kfturn4_13 rfl rfl) rfl rfl ?_
  refine reg_op (op_call (rValues a h A cap V x0 y0 x1 y1 _ s (hr.below H9.base) hl) rfl kfturn4_14 ⟨rfl, rfl, trivial⟩) rfl rfl ?_
  rintro _ w11 ⟨A13, c14, rfl, k10⟩
  have H12 := H9.call k10
  refine ry (y_mov rfl rfl) rfl rfl ?_
  refine ry (y_ext rfl rfl rfl) rfl rfl ?_
  refine ry (y_ext rfl rfl rfl) rfl rfl ?_
  refine ry (y_asg rfl rfl) rfl rfl ?_
  refine ry (y_asg rfl rfl) rfl rfl ?_
  refine reg_nil ?_
  refine fn_next ?_
  refine cw_seq ?_
  refine cw_seq ?_
  refine cw_reg ?_
  refine ry (y_mov rfl rfl) rfl rfl ?_
  refine ry (y_neq rfl rfl rfl) rfl rfl ?_
  refine reg_nil ?_
  refine fn_next ?_
  refine cw_condd rfl (fun h15 => ?_) (fun h15 => ?_)
  · skip
    refine cw_seq ?_
    refine cw_reg ?_
    refine ry (y_build (places := [(0, 1), (1, 1), (2, 1)]) (parts := []) (vs := []) (cs := [.int _ _, .int _ _, .slice _ _ _]) rfl Try.underlying25 (by kernel_rfl) kfturn4_1 rfl trivial rfl) rfl rfl ?_
    refine ry (y_mov rfl rfl) rfl rfl ?_
    refine reg_op (op_st (i := 1) (vs := [.int _ _, .int _ _, .slice _ _ _]) H12 rfl rfl rfl rfl rfl kfturn4_2 rfl rfl rfl) rfl rfl ?_
    rintro _ w16 H17
    refine ry (y_asg rfl rfl) rfl rfl ?_
    refine reg_nil ?_
    refine fn_next ?_
    refine cw_ret ?_
    refine fn_then_ret ?_
    refine fn_retn (vs := [_, _]) rfl ⟨⟨_, rfl, load_agg (cs := [_, _, _]) kfturn4_3 rfl fun j v hv => by rw [Nat.zero_add]; exact H17.cell (i := 1) rfl hv⟩, rfl, trivial⟩ rfl ?_
    exact ⟨rfl, H17.base⟩
  · exact absurd (Classical.not_not.1 h15) hw

set_option maxRecDepth 100000 in
theorem mCrop_ok (a h : Nat) (A : Option Addr) (cap : Nat) (V : List Int) (p0 q0 p1 q1 : Nat) (w : World) (s : SzG a h) (hr : Rd w A (vi .i64 V)) (hl : V.length = a * h) (h1 : p0 ≤ p1) (h2 : p1 < a) (h3 : q0 ≤ q1) (h4 : q1 < h) :
    Ret Try.prog 31 [.agg #[.int .i64 (a : Int), .int .i64 (h : Int), .slice A (a * h) cap], .agg #[.int .i64 (p0 : Int), .int .i64 (q0 : Int), .int .i64 (p1 : Int), .int .i64 (q1 : Int)]] w (fun z w' => ∃ A' cap', z = .tuple #[.agg #[.int .i64 ((p1 + 1 - p0 : Nat) : Int), .int .i64 ((q1 + 1 - q0 : Nat) : Int), .slice A' ((p1 + 1 - p0) * (q1 + 1 - q0)) cap'], .int .i64 0] ∧ HS w w' [.row A' ((p1 + 1 - p0) * (q1 + 1 - q0)) cap' (vi .i64 (gvalV V a h p0 q0 p1 q1)) 2 1]) := by
  obtain ⟨s1, s2, s3, s4⟩ := id s
  have hm := s.mul
  have hw := within_okG s h1 h2 h3 h4
  have hgb : (gvalV V a h p0 q0 p1 q1).length = ((p1 + 1 - p0) * (q1 + 1 - q0)) := by rw [gvalV_ok hw h1 h3, rvAll_len, Nat.mul_comm]
  refine ret_enter Try.func31 rfl rfl rfl ?_
  have H0 := HS.start w
  refine cw_seq ?_
  refine cw_reg ?_
  refine reg_op (op_box (cs := [.int _ _, .int _ _, .slice _ _ _]) H0 rfl rfl rfl) rfl rfl ?_
  rintro _ w2 ⟨b1, rfl, H3⟩
  refine reg_op (op_box (cs := [.int _ _, .int _ _, .int _ _, .int _ _]) H3 rfl rfl rfl) rfl rfl ?_
  rintro _ w5 ⟨b4, rfl, H6⟩
  refine reg_op (op_alloc H6 rfl kfturn4_1) rfl rfl ?_
  rintro _ w8 ⟨b7, rfl, H9⟩
  refine ry (y_asg rfl rfl) rfl rfl ?_
  refine reg_nil ?_
  refine fn_next ?_
  refine cw_seq ?_
  refine cw_reg ?_
  refine ry (y_ldb (i := 2) (cs := [_, _, _]) H9 rfl rfl kfturn4_3 rfl rfl) rfl rfl ?_
  refine ry (y_ldb (i := 1) (cs := [_, _, _, _]) H9 rfl rfl kfturn4_13 rfl rfl) rfl rfl ?_
  refine reg_op (op_call (rValues a h A cap V p0 q0 p1 q1 _ s (hr.below H9.base) hl) rfl kfturn4_14 ⟨rfl, rfl, trivial⟩) rfl rfl ?_
  rintro _ w11 ⟨A13, c14, rfl, k10⟩
  have H12 := H9.call k10
  refine ry (y_mov rfl rfl) rfl rfl ?_
  refine ry (y_ext rfl rfl rfl) rfl rfl ?_
  refine ry (y_ext rfl rfl rfl) rfl rfl ?_
  refine ry (y_asg rfl rfl) rfl rfl ?_
  refine ry (y_asg rfl rfl) rfl rfl ?_
  refine reg_nil ?_
  refine fn_next ?_
  refine cw_seq ?_
  refine cw_seq ?_
  refine cw_reg ?_
  refine ry (y_mov rfl rfl) rfl rfl ?_
  refine ry (y_neq rfl rfl rfl) rfl rfl ?_
  refine reg_nil ?_
  refine fn_next ?_
  refine cw_condd rfl (fun h15 => ?_) (fun h15 => ?_)
  · exact absurd hw h15
  · skip
    refine cw_skip ?_
    refine fn_next ?_
    refine cw_seq ?_
    refine cw_reg ?_
    refine ry (y_fa rfl rfl kfturn4_15 rfl) rfl rfl ?_
    refine ry (y_ld rfl rfl kfturn4_5 (H12.cell (i := 2) rfl rfl)) rfl rfl ?_
    refine ry (y_fa rfl rfl kfturn4_16 rfl) rfl rfl ?_
    refine ry (y_ld rfl rfl kfturn4_5 (H12.cell (i := 2) rfl rfl)) rfl rfl ?_
    refine ry (y_sub rfl rfl rfl (wi (by omega))) rfl rfl ?_
    refine ry (y_add rfl rfl rfl (show _ = ((p1 + 1 - p0 : Nat) : Int) from (wi (by omega)).trans (by omega))) rfl rfl ?_
    refine ry (y_fa rfl rfl kfturn4_17 rfl) rfl rfl ?_
    refine ry (y_ld rfl rfl kfturn4_5 (H12.cell (i := 2) rfl rfl)) rfl rfl ?_
    refine ry (y_fa rfl rfl kfturn4_18 rfl) rfl rfl ?_
    refine ry (y_ld rfl rfl kfturn4_5 (H12.cell (i := 2) rfl rfl)) rfl rfl ?_
    refine ry (y_sub rfl rfl rfl (wi (by omega))) rfl rfl ?_
    refine ry (y_add rfl rfl rfl (show _ = ((q1 + 1 - q0 : Nat) : Int) from (wi (by omega)).trans (by omega))) rfl rfl ?_
    refine ry (y_mov rfl rfl) rfl rfl ?_
    refine ry (y_build (places := [(0, 1), (1, 1), (2, 1)]) (parts := [(0, _), (1, _), (2, _)]) (vs := [(0, _), (1, _), (2, _)]) (cs := [.int _ _, .int _ _, .slice _ _ _]) rfl Try.underlying25 (by kernel_rfl) kfturn4_1 rfl ⟨rfl, rfl, rfl, trivial⟩ rfl) rfl rfl ?_
    refine reg_op (op_st (i := 1) (vs := [.int _ _, .int _ _, .slice _ _ _]) H12 rfl rfl rfl rfl rfl kfturn4_2 rfl rfl rfl) rfl rfl ?_
    rintro _ w16 H17
    refine ry (y_asg rfl rfl) rfl rfl ?_
    refine reg_nil ?_
    refine fn_next ?_
    refine cw_ret ?_
    refine fn_retn (vs := [_, _]) rfl ⟨⟨_, rfl, load_agg (cs := [_, _, _]) kfturn4_3 rfl fun j v hv => by rw [Nat.zero_add]; exact H17.cell (i := 1) rfl hv⟩, rfl, trivial⟩ rfl ?_
    have Hz := (H17.pick (m := [_]) [0] rfl (by decide))
    rw [hgb] at Hz
    exact ⟨_, _, by rw [← hgb], Hz⟩

set_option maxRecDepth 100000 in
theorem mBelow_n (a h : Nat) (A : Option Addr) (cap : Nat) (V : List Int) (a2 h2 : Nat) (B : Option Addr) (cap2 : Nat) (V2 : List Int) (w : World) (s : SzG a h) (hr : Rd w A (vi .i64 V)) (hl : V.length = a * h) (s' : SzG a2 h2) (hr2 : Rd w B (vi .i64 V2)) (hl2 : V2.length = a2 * h2) (hn : ¬ a = a2) :
    Ret Try.prog 51 [.agg #[.int .i64 (a : Int), .int .i64 (h : Int), .slice A (a * h) cap], .agg #[.int .i64 (a2 : Int), .int .i64 (h2 : Int), .slice B (a2 * h2) cap2]] w (fun z w' => z = .tuple #[.agg #[.int .i64 0, .int .i64 0, .slice none 0 0], .int .i64 6] ∧ Below w.heap.size w w') := by
  obtain ⟨s1, s2, s3, s4⟩ := id s
  have hm := s.mul
  obtain ⟨t1, t2, t3, t4⟩ := id s'
  have hm2 := s'.mul
  refine ret_enter Try.func51 rfl rfl rfl ?_
  have H0 := HS.start w
  refine cw_seq ?_
  refine cw_reg ?_
  refine reg_op (op_box (cs := [.int _ _, .int _ _, .slice _ _ _]) H0 rfl rfl rfl) rfl rfl ?_
  rintro _ w2 ⟨b1, rfl, H3⟩
  refine reg_op (op_box (cs := [.int _ _, .int _ _, .slice _ _ _]) H3 rfl rfl rfl) rfl rfl ?_
  rintro _ w5 ⟨b4, rfl, H6⟩
  refine reg_op (op_alloc H6 rfl kfturn4_1) rfl rfl ?_
  rintro _ w8 ⟨b7, rfl, H9⟩
  refine ry (y_asg rfl rfl) rfl rfl ?_
  refine reg_nil ?_
  refine fn_next ?_
  refine cw_seq ?_
  refine cw_seq ?_
  refine cw_reg ?_
  refine ry (y_fa rfl rfl kfturn4_4 rfl) rfl rfl ?_
  refine ry (y_ld rfl rfl kfturn4_5 (H9.cell (i := 2) rfl rfl)) rfl rfl ?_
  refine ry (y_fa rfl rfl kfturn4_4 rfl) rfl rfl ?_
  refine ry (y_ld rfl rfl kfturn4_5 (H9.cell (i := 1) rfl rfl)) rfl rfl ?_
  refine ry (y_neq rfl rfl rfl) rfl rfl ?_
  refine reg_nil ?_
  refine fn_next ?_
  refine cw_condd rfl (fun h10 => ?_) (fun h10 => ?_)
  · skip
    refine cw_seq ?_
    refine cw_reg ?_
    refine ry (y_build (places := [(0, 1), (1, 1), (2, 1)]) (parts := []) (vs := []) (cs := [.int _ _, .int _ _, .slice _ _ _]) rfl Try.underlying25 (by kernel_rfl) kfturn4_1 rfl trivial rfl) rfl rfl ?_
    refine reg_op (op_st (i := 0) (vs := [.int _ _, .int _ _, .slice _ _ _]) H9 rfl rfl rfl rfl rfl kfturn4_2 rfl rfl rfl) rfl rfl ?_
    rintro _ w11 H12
    refine ry (y_asg rfl rfl) rfl rfl ?_
    refine reg_nil ?_
    refine fn_next ?_
    refine cw_ret ?_
    refine fn_then_ret ?_
    refine fn_retn (vs := [_, _]) rfl ⟨⟨_, rfl, load_agg (cs := [_, _, _]) kfturn4_3 rfl fun j v hv => by rw [Nat.zero_add]; exact H12.cell (i := 0) rfl hv⟩, rfl, trivial⟩ rfl ?_
    exact ⟨rfl, H12.base⟩
  · exfalso; omega

set_option maxRecDepth 100000 in
theorem mBelow_s (a h : Nat) (A : Option Addr) (cap : Nat) (V : List Int) (a2 h2 : Nat) (B : Option Addr) (cap2 : Nat) (V2 : List Int) (w : World) (s : SzG a h) (hr : Rd w A (vi .i64 V)) (hl : V.length = a * h) (s' : SzG a2 h2) (hr2 : Rd w B (vi .i64 V2)) (hl2 : V2.length = a2 * h2) (hn : a = a2) (hs : ¬ h + h2 ≤ 1024) :
    Ret Try.prog 51 [.agg #[.int .i64 (a : Int), .int .i64 (h : Int), .slice A (a * h) cap], .agg #[.int .i64 (a2 : Int), .int .i64 (h2 : Int), .slice B (a2 * h2) cap2]] w (fun z w' => z = .tuple #[.agg #[.int .i64 0, .int .i64 0, .slice none 0 0], .int .i64 3] ∧ Below w.heap.size w w') := by
  obtain ⟨s1, s2, s3, s4⟩ := id s
  have hm := s.mul
  obtain ⟨t1, t2, t3, t4⟩ := id s'
  have hm2 := s'.mul
  refine ret_enter Try.func51 rfl rfl rfl ?_
  have H0 := HS.start w
  refine cw_seq ?_
  refine cw_reg ?_
  refine reg_op (op_box (cs := [.int _ _, .int _ _, .slice _ _ _]) H0 rfl rfl rfl) rfl rfl ?_
  rintro _ w2 ⟨b1, rfl, H3⟩
  refine reg_op (op_box (cs := [.int _ _, .int _ _, .slice _ _ _]) H3 rfl rfl rfl) rfl rfl ?_
  rintro _ w5 ⟨b4, rfl, H6⟩
  refine reg_op (op_alloc H6 rfl kfturn4_1) rfl rfl ?_
  rintro _ w8 ⟨b7, rfl, H9⟩
  refine ry (y_asg rfl rfl) rfl rfl ?_
  refine reg_nil ?_
  refine fn_next ?_
  refine cw_seq ?_
  refine cw_seq ?_
  refine cw_reg ?_
  refine ry (y_fa rfl rfl kfturn4_4 rfl) rfl rfl ?_
  refine ry (y_ld rfl rfl kfturn4_5 (H9.cell (i := 2) rfl rfl)) rfl rfl ?_
  refine ry (y_fa rfl rfl kfturn4_4 rfl) rfl rfl ?_
  refine ry (y_ld rfl rfl kfturn4_5 (H9.cell (i := 1) rfl rfl)) rfl rfl ?_
  refine ry (y_neq rfl rfl rfl) rfl rfl ?_
  refine reg_nil ?_
  refine fn_next ?_
  refine cw_condd rfl (fun h10 => ?_) (fun h10 => ?_)
  · exfalso; omega
  · skip
    refine cw_skip ?_
    refine fn_next ?_
    refine cw_seq ?_
    refine cw_seq ?_
    refine cw_reg ?_
    refine ry (y_fa rfl rfl kfturn4_6 rfl) rfl rfl ?_
    refine ry (y_ld rfl rfl kfturn4_5 (H9.cell (i := 2) rfl rfl)) rfl rfl ?_
    refine ry (y_fa rfl rfl kfturn4_6 rfl) rfl rfl ?_
    refine ry (y_ld rfl rfl kfturn4_5 (H9.cell (i := 1) rfl rfl)) rfl rfl ?_
    refine ry (y_add rfl rfl rfl (wi (by omega))) rfl rfl ?_
    refine ry (y_gtr rfl rfl rfl) rfl rfl ?_
    refine reg_nil ?_
    refine fn_next ?_
    refine cw_condd rfl (fun h11 => ?_) (fun h11 => ?_)
    · skip
      refine cw_seq ?_
      refine cw_reg ?_
      refine ry (y_build (places := [(0, 1), (1, 1), (2, 1)]) (parts := []) (vs := []) (cs := [.int _ _, .int _ _, .slice _ _ _]) rfl Try.underlying25 (by kernel_rfl) kfturn4_1 rfl trivial rfl) rfl rfl ?_
      refine reg_op (op_st (i := 0) (vs := [.int _ _, .int _ _, .slice _ _ _]) H9 rfl rfl rfl rfl rfl kfturn4_2 rfl rfl rfl) rfl rfl ?_
      rintro _ w12 H13
      refine ry (y_asg rfl rfl) rfl rfl ?_
      refine reg_nil ?_
      refine fn_next ?_
      refine cw_ret ?_
      refine fn_then_ret ?_
      refine fn_retn (vs := [_, _]) rfl ⟨⟨_, rfl, load_agg (cs := [_, _, _]) kfturn4_3 rfl fun j v hv => by rw [Nat.zero_add]; exact H13.cell (i := 0) rfl hv⟩, rfl, trivial⟩ rfl ?_
      exact ⟨rfl, H13.base⟩
    · exfalso; omega

set_option maxRecDepth 100000 in
theorem mBelow_ok (a h : Nat) (A : Option Addr) (cap : Nat) (V : List Int) (h2 : Nat) (B : Option Addr) (cap2 : Nat) (V2 : List Int) (w : World) (s : SzG a h) (hr : Rd w A (vi .i64 V)) (hl : V.length = a * h) (s' : SzG a h2) (hr2 : Rd w B (vi .i64 V2)) (hl2 : V2.length = a * h2) (hs : h + h2 ≤ 1024) :
    Ret Try.prog 51 [.agg #[.int .i64 (a : Int), .int .i64 (h : Int), .slice A (a * h) cap], .agg #[.int .i64 (a : Int), .int .i64 (h2 : Int), .slice B (a * h2) cap2]] w (fun z w' => ∃ A' cap', z = .tuple #[.agg #[.int .i64 (a : Int), .int .i64 ((h + h2 : Nat) : Int), .slice A' (a * (h + h2)) cap'], .int .i64 0] ∧ HS w w' [.row A' (a * (h + h2)) cap' (vi .i64 (V ++ V2)) 2 1]) := by
  obtain ⟨s1, s2, s3, s4⟩ := id s
  have hm := s.mul
  obtain ⟨t1, t2, t3, t4⟩ := id s'
  have hm2 := s'.mul
  refine ret_enter Try.func51 rfl rfl rfl ?_
  have H0 := HS.start w
  refine cw_seq ?_
  refine cw_reg ?_
  refine reg_op (op_box (cs := [.int _ _, .int _ _, .slice _ _ _]) H0 rfl rfl rfl) rfl rfl ?_
  rintro _ w2 ⟨b1, rfl, H3⟩
  refine reg_op (op_box (cs := [.int _ _, .int _ _, .slice _ _ _]) H3 rfl rfl rfl) rfl rfl ?_
  rintro _ w5 ⟨b4, rfl, H6⟩
  refine reg_op (op_alloc H6 rfl kfturn4_1) rfl rfl ?_
  rintro _ w8 ⟨b7, rfl, H9⟩
  refine ry (y_asg rfl rfl) rfl rfl ?_
  refine reg_nil ?_
  refine fn_next ?_
  refine cw_seq ?_
  refine cw_seq ?_
  refine cw_reg ?_
  refine ry (y_fa rfl rfl kfturn4_4 rfl) rfl rfl ?_
  refine ry (y_ld rfl rfl kfturn4_5 (H9.cell (i := 2) rfl rfl)) rfl rfl ?_
  refine ry (y_fa rfl rfl kfturn4_4 rfl) rfl rfl ?_
  refine ry (y_ld rfl rfl kfturn4_5 (H9.cell (i := 1) rfl rfl)) rfl rfl ?_
  refine ry (y_neq rfl rfl rfl) rfl rfl ?_
  refine reg_nil ?_
  refine fn_next ?_
  refine cw_condd rfl (fun h10 => ?_) (fun h10 => ?_)
  · exfalso; omega
  · skip
    refine cw_skip ?_
    refine fn_next ?_
    refine cw_seq ?_
    refine cw_seq ?_
    refine cw_reg ?_
    refine ry (y_fa rfl rfl kfturn4_6 rfl) rfl rfl ?_
    refine ry (y_ld rfl rfl kfturn4_5 (H9.cell (i := 2) rfl rfl)) rfl rfl ?_
    refine ry (y_fa rfl rfl kfturn4_6 rfl) rfl rfl ?_
    refine ry (y_ld rfl rfl kfturn4_5 (H9.cell (i := 1) rfl rfl)) rfl rfl ?_
    refine ry (y_add rfl rfl rfl (wi (by omega))) rfl rfl ?_
    refine ry (y_gtr rfl rfl rfl) rfl rfl ?_
    refine reg_nil ?_
    refine fn_next ?_
    refine cw_condd rfl (fun h11 => ?_) (fun h11 => ?_)
    · exfalso; omega
    · skip
      refine cw_skip ?_
      refine fn_next ?_
      refine cw_seq ?_
      refine cw_draw H9 [0, 1, 2, 3, 4, 5, 6, 8, 9, 11, 12] [7, 10, 13, 14, 15, 16] (fun X HX => (HX.pick (m := [_, _]) [1, 2] rfl (by decide))) (by kernel_rfl) (by kernel_rfl) (by rfl) ?_
      simp only [pick, List.getElem?_cons_succ, List.getElem?_cons_zero]
      refine hk_y (fun Y HY => y_fa rfl rfl kfturn4_4 rfl) rfl rfl ?_
      refine hk_y (fun Y HY => y_ld rfl rfl kfturn4_5 (HY.cell (i := 1) rfl rfl)) rfl rfl ?_
      refine hk_y (fun Y HY => y_fa rfl rfl kfturn4_6 rfl) rfl rfl ?_
      refine hk_y (fun Y HY => y_ld rfl rfl kfturn4_5 (HY.cell (i := 1) rfl rfl)) rfl rfl ?_
      refine hk_y (fun Y HY => y_fa rfl rfl kfturn4_6 rfl) rfl rfl ?_
      refine hk_y (fun Y HY => y_ld rfl rfl kfturn4_5 (HY.cell (i := 0) rfl rfl)) rfl rfl ?_
      refine hk_y (fun Y HY => y_add rfl rfl rfl (addN (by omega))) rfl rfl ?_
      refine hk_y (fun Y HY => y_fa rfl rfl kfturn4_7 rfl) rfl rfl ?_
      refine hk_y (fun Y HY => y_ld rfl rfl kfturn4_8 (HY.cell (i := 1) rfl rfl)) rfl rfl ?_
      refine hk_y (fun Y HY => y_fa rfl rfl kfturn4_7 rfl) rfl rfl ?_
      refine hk_y (fun Y HY => y_ld rfl rfl kfturn4_8 (HY.cell (i := 0) rfl rfl)) rfl rfl ?_
      refine hk_nil ?_
      intro w12 H13
      refine tv_op (op_lit (parts := []) (vs := []) (cs := []) H13 rfl Try.underlying22 kfturn4_10 rfl trivial rfl rfl) rfl rfl ?_
      rintro _ w15 ⟨b14, rfl, H16⟩
      have H17 := H16.asrow (m := 0) (size := 1) rfl (by decide)
      refine ⟨(H17.pick (m := [_, _]) [2, 3] rfl (by decide)), fun w18 e20 => ?_⟩
      have H19 := H17.ext e20
      refine tv_op (op_app (i := 0) H19 rfl rfl rfl rfl (hr.below H19.base) (by rw [vi_len, hl, Nat.mul_one]) (vi_one) Try.underlying22 kfturn4_11 rfl rfl (by unfold maxLen; omega) (by omega)) rfl rfl ?_
      rintro _ w23 ⟨A21, c22, rfl, H24⟩
      refine ⟨(H24.pick (m := [_, _]) [2, 3] rfl (by decide)), fun w25 e27 => ?_⟩
      have H26 := H24.ext e27
      refine tv_op (op_app (i := 0) H26 rfl rfl rfl rfl (hr2.below H26.base) (by rw [vi_len, hl2, Nat.mul_one]) (vi_one) Try.underlying22 kfturn4_11 rfl rfl (by unfold maxLen; omega) (by omega)) rfl rfl ?_
      rintro _ w30 ⟨A28, c29, rfl, H31⟩
      refine ⟨(H31.pick (m := [_, _]) [2, 3] rfl (by decide)), fun w32 e34 => ?_⟩
      have H33 := H31.ext e34
      refine tv_op (Yd.op (y_build (places := [(0, 1), (1, 1), (2, 1)]) (parts := [(0, _), (1, _), (2, _)]) (vs := [(0, _), (1, _), (2, _)]) (cs := [.int _ _, .int _ _, .slice _ _ _]) rfl Try.underlying25 (by kernel_rfl) kfturn4_1 rfl ⟨rfl, rfl, rfl, trivial⟩ rfl)) rfl rfl ?_
      rintro _ _ ⟨rfl, rfl⟩
      refine ⟨(H33.pick (m := [_, _]) [2, 3] rfl (by decide)), fun w35 e37 => ?_⟩
      have H36 := H33.ext e37
      refine tv_op (op_st (i := 1) (vs := [.int _ _, .int _ _, .slice _ _ _]) H36 rfl rfl rfl rfl rfl kfturn4_2 rfl rfl rfl) rfl rfl ?_
      rintro _ w38 H39
      refine ⟨(H39.pick (m := [_, _]) [2, 3] rfl (by decide)), fun w40 e42 => ?_⟩
      have H41 := H39.ext e42
      refine tv_op (Yd.op (y_asg rfl rfl)) rfl rfl ?_
      rintro _ _ ⟨rfl, rfl⟩
      refine ⟨(H41.pick (m := [_, _]) [2, 3] rfl (by decide)), fun w43 e45 => ?_⟩
      have H44 := H41.ext e45
      refine tv_nil ?_
      refine fn_next ?_
      refine cw_ret ?_
      refine fn_retn (vs := [_, _]) rfl ⟨⟨_, rfl, load_agg (cs := [_, _, _]) kfturn4_3 rfl fun j v hv => by rw [Nat.zero_add]; exact H44.cell (i := 1) rfl hv⟩, rfl, trivial⟩ rfl ?_
      have Hz := (H44.pick (m := [_]) [0] rfl (by decide))
      have hcn : 0 + a * h + a * h2 = a * (h + h2) := by rw [Nat.mul_add]; omega
      have Hw : HS w w43 [Ob.row A28 (0 + a * h + a * h2) c29 (vi .i64 (V ++ V2)) 2 1] := by rw [vi_app]; exact Hz
      rw [hcn] at Hw
      exact ⟨A28, c29, by rw [← hcn], Hw⟩

set_option maxRecDepth 100000 in
theorem mBeside_n (a h : Nat) (A : Option Addr) (cap : Nat) (V : List Int) (a2 h2 : Nat) (B : Option Addr) (cap2 : Nat) (V2 : List Int) (w : World) (s : SzG a h) (hr : Rd w A (vi .i64 V)) (hl : V.length = a * h) (s' : SzG a2 h2) (hr2 : Rd w B (vi .i64 V2)) (hl2 : V2.length = a2 * h2) (hn : ¬ h = h2) :
    Ret Try.prog 50 [.agg #[.int .i64 (a : Int), .int .i64 (h : Int), .slice A (a * h) cap], .agg #[.int .i64 (a2 : Int), .int .i64 (h2 : Int), .slice B (a2 * h2) cap2]] w (fun z w' => z = .tuple #[.agg #[.int .i64 0, .int .i64 0, .slice none 0 0], .int .i64 6] ∧ Below w.heap.size w w') := by
  obtain ⟨s1, s2, s3, s4⟩ := id s
  have hm := s.mul
  obtain ⟨t1, t2, t3, t4⟩ := id s'
  have hm2 := s'.mul
  refine ret_enter Try.func50 rfl rfl rfl ?_
  have H0 := HS.start w
  refine cw_seq ?_
  refine cw_reg ?_
  refine reg_op (op_box (cs := [.int _ _, .int _ _, .slice _ _ _]) H0 rfl rfl rfl) rfl rfl ?_
  rintro _ w2 ⟨b1, rfl, H3⟩
  refine reg_op (op_box (cs := [.int _ _, .int _ _, .slice _ _ _]) H3 rfl rfl rfl) rfl rfl ?_
  rintro _ w5 ⟨b4, rfl, H6⟩
  refine reg_op (op_alloc H6 rfl kfturn4_1) rfl rfl ?_
  rintro _ w8 ⟨b7, rfl, H9⟩
  refine ry (y_asg rfl rfl) rfl rfl ?_
  refine reg_nil ?_
  refine fn_next ?_
  refine cw_seq ?_
  refine cw_drawT H9 [0, 2] (.alt (.step 1 (.alt (.step 3 (.alt (.step 4 (.alt (.step 5 (.alt (.step 6 (.alt (.step 7 (.step 8 (.step 9 (.step 10 (.leaf))))) (.step 8 (.alt (.step 7 (.step 9 (.step 10 (.leaf)))) (.step 9 (.step 7 (.step 10 (.leaf)))))))) (.alt (.step 7 (.alt (.step 6 (.step 8 (.step 9 (.step 10 (.leaf))))) (.step 8 (.step 6 (.step 9 (.step 10 (.leaf))))))) (.step 8 (.alt (.step 6 (.alt (.step 7 (.step 9 (.step 10 (.leaf)))) (.step 9 (.step 7 (.step 10 (.leaf)))))) (.step 7 (.step 6 (.step 9 (.step 10 (.leaf)))))))))) (.step 8 (.step 5 (.alt (.step 6 (.alt (.step 7 (.step 9 (.step 10 (.leaf)))) (.step 9 (.step 7 (.step 10 (.leaf)))))) (.step 7 (.step 6 (.step 9 (.step 10 (.leaf)))))))))) (.step 8 (.step 4 (.step 5 (.alt (.step 6 (.alt (.step 7 (.step 9 (.step 10 (.leaf)))) (.step 9 (.step 7 (.step 10 (.leaf)))))) (.step 7 (.step 6 (.step 9 (.step 10 (.leaf))))))))))) (.step 8 (.step 3 (.step 4 (.step 5 (.alt (.step 6 (.alt (.step 7 (.step 9 (.step 10 (.leaf)))) (.step 9 (.step 7 (.step 10 (.leaf)))))) (.step 7 (.step 6 (.step 9 (.step 10 (.leaf)))))))))))) (.step 8 (.step 1 (.step 3 (.step 4 (.step 5 (.alt (.step 6 (.alt (.step 7 (.step 9 (.step 10 (.leaf)))) (.step 9 (.step 7 (.step 10 (.leaf)))))) (.step 7 (.step 6 (.step 9 (.step 10 (.leaf)))))))))))) (fun X HX => HX) (by kernel_rfl) (by kernel_rfl) (by rfl) ?_
  simp only [pick, List.getElem?_cons_succ, List.getElem?_cons_zero]
  refine hk_y (fun Y HY => y_ldb (i := 2) (cs := [_, _, _]) HY rfl rfl kfturn4_3 rfl rfl) rfl rfl ?_
  refine hk_y (fun Y HY => y_ldb (i := 1) (cs := [_, _, _]) HY rfl rfl kfturn4_3 rfl rfl) rfl rfl ?_
  refine hkt_nil [6, 7, 8, 10, 12, 13, 14, 15] (fun M wl => ∃ (b' : Nat), M = [(6, .pointer (some ⟨b', 0, none⟩)), (7, .int .i64 6)] ∧ HS w wl [Ob.blk b' [.int .i64 0, .int .i64 0, .slice none 0 0] 25, Ob.blk b7 [.int .i64 0, .int .i64 0, .slice none 0 0] 25]) (fun wX HX => ?_) ?_
  · skip
    refine tt_alt ?_ ?_
    · skip
      refine tt_op rfl (op_call (mSwap a h A cap V _ s (hr.below HX.base) hl) rfl kfturn4_19 ⟨rfl, trivial⟩) rfl rfl ?_
      rintro _ w11 ⟨A13, c14, rfl, k10⟩
      have H12 := HX.call k10
      refine ⟨(H12.pick (m := [_, _, _]) [1, 2, 3] rfl (by decide)), fun w15 e17 => ?_⟩
      have H16 := H12.ext e17
      refine tt_alt ?_ ?_
      · skip
        refine tt_op rfl (op_call (mSwap a2 h2 B cap2 V2 _ s' (hr2.below H16.base) hl2) rfl kfturn4_19 ⟨rfl, trivial⟩) rfl rfl ?_
        rintro _ w19 ⟨A21, c22, rfl, k18⟩
        have H20 := H16.call k18
        refine ⟨(H20.pick (m := [_, _, _]) [2, 3, 4] rfl (by decide)), fun w23 e25 => ?_⟩
        have H24 := H20.ext e25
        refine tt_alt ?_ ?_
        · skip
          refine tt_op rfl (op_call (mBelow_n h a A13 c14 (swV V a h) h2 a2 A21 c22 (swV V2 a2 h2) _ ⟨s3, s4, s1, s2⟩ (H24.rd (i := 1) rfl) swV_len ⟨t3, t4, t1, t2⟩ (H24.rd (i := 0) rfl) swV_len hn) rfl kfturn4_20 ⟨rfl, rfl, trivial⟩) rfl rfl ?_
          rintro _ w27 ⟨rfl, e26⟩
          have H28 := H24.ext e26
          refine ⟨(H28.pick (m := [_, _, _]) [2, 3, 4] rfl (by decide)), fun w29 e31 => ?_⟩
          have H30 := H28.ext e31
          refine tt_alt ?_ ?_
          · skip
            refine tt_op rfl (Yd.op (y_mov rfl rfl)) rfl rfl ?_
            rintro _ _ ⟨rfl, rfl⟩
            refine ⟨(H30.pick (m := [_, _, _]) [2, 3, 4] rfl (by decide)), fun w32 e34 => ?_⟩
            have H33 := H30.ext e34
            refine tt_alt ?_ ?_
            · skip
              refine tt_op rfl (Yd.op (y_ext rfl rfl rfl)) rfl rfl ?_
              rintro _ _ ⟨rfl, rfl⟩
              refine ⟨(H33.pick (m := [_, _, _]) [2, 3, 4] rfl (by decide)), fun w35 e37 => ?_⟩
              have H36 := H33.ext e37
              refine tt_alt ?_ ?_
              · skip
                refine tt_op rfl (Yd.op (y_ext rfl rfl rfl)) rfl rfl ?_
                rintro _ _ ⟨rfl, rfl⟩
                refine ⟨(H36.pick (m := [_, _, _]) [2, 3, 4] rfl (by decide)), fun w38 e40 => ?_⟩
                have H39 := H36.ext e40
                refine tt_op rfl (op_alloc H39 rfl kfturn4_1) rfl rfl ?_
                rintro _ w42 ⟨b41, rfl, H43⟩
                refine ⟨(H43.pick (m := [_, _, _]) [3, 4, 5] rfl (by decide)), fun w44 e46 => ?_⟩
                have H45 := H43.ext e46
                refine tt_op rfl (op_st (i := 0) (vs := [.int _ _, .int _ _, .slice _ _ _]) H45 rfl rfl rfl rfl rfl kfturn4_2 rfl rfl rfl) rfl rfl ?_
                rintro _ w47 H48
                refine ⟨(H48.pick (m := [_, _, _]) [3, 4, 5] rfl (by decide)), fun w49 e51 => ?_⟩
                have H50 := H48.ext e51
                refine tt_op rfl (Yd.op (y_asg rfl rfl)) rfl rfl ?_
                rintro _ _ ⟨rfl, rfl⟩
                refine ⟨(H50.pick (m := [_, _, _]) [3, 4, 5] rfl (by decide)), fun w52 e54 => ?_⟩
                have H53 := H50.ext e54
                exact tt_leaf ⟨b41, rfl, (H53.pick (m := [_, _]) [0, 3] rfl (by decide))⟩ ⟨rfl, rfl, trivial⟩ (by repeat (first | exact kp_refl | refine kp_app rfl rfl ?_ | refine kp_cons rfl ?_))
              refine tt_op rfl (op_alloc H36 rfl kfturn4_1) rfl rfl ?_
              rintro _ w56 ⟨b55, rfl, H57⟩
              refine ⟨(H57.pick (m := [_, _, _]) [3, 4, 5] rfl (by decide)), fun w58 e60 => ?_⟩
              have H59 := H57.ext e60
              refine tt_alt ?_ ?_
              · skip
                refine tt_op rfl (Yd.op (y_ext rfl rfl rfl)) rfl rfl ?_
                rintro _ _ ⟨rfl, rfl⟩
                refine ⟨(H59.pick (m := [_, _, _]) [3, 4, 5] rfl (by decide)), fun w61 e63 => ?_⟩
                have H62 := H59.ext e63
                refine tt_op rfl (op_st (i := 0) (vs := [.int _ _, .int _ _, .slice _ _ _]) H62 rfl rfl rfl rfl rfl kfturn4_2 rfl rfl rfl) rfl rfl ?_
                rintro _ w64 H65
                refine ⟨(H65.pick (m := [_, _, _]) [3, 4, 5] rfl (by decide)), fun w66 e68 => ?_⟩
                have H67 := H65.ext e68
                refine tt_op rfl (Yd.op (y_asg rfl rfl)) rfl rfl ?_
                rintro _ _ ⟨rfl, rfl⟩
                refine ⟨(H67.pick (m := [_, _, _]) [3, 4, 5] rfl (by decide)), fun w69 e71 => ?_⟩
                have H70 := H67.ext e71
                exact tt_leaf ⟨b55, rfl, (H70.pick (m := [_, _]) [0, 3] rfl (by decide))⟩ ⟨rfl, rfl, trivial⟩ (by repeat (first | exact kp_refl | refine kp_app rfl rfl ?_ | refine kp_cons rfl ?_))
              refine tt_op rfl (op_st (i := 0) (vs := [.int _ _, .int _ _, .slice _ _ _]) H59 rfl rfl rfl rfl rfl kfturn4_2 rfl rfl rfl) rfl rfl ?_
              rintro _ w72 H73
              refine ⟨(H73.pick (m := [_, _, _]) [3, 4, 5] rfl (by decide)), fun w74 e76 => ?_⟩
              have H75 := H73.ext e76
              refine tt_op rfl (Yd.op (y_ext rfl rfl rfl)) rfl rfl ?_
              rintro _ _ ⟨rfl, rfl⟩
              refine ⟨(H75.pick (m := [_, _, _]) [3, 4, 5] rfl (by decide)), fun w77 e79 => ?_⟩
              have H78 := H75.ext e79
              refine tt_op rfl (Yd.op (y_asg rfl rfl)) rfl rfl ?_
              rintro _ _ ⟨rfl, rfl⟩
              refine ⟨(H78.pick (m := [_, _, _]) [3, 4, 5] rfl (by decide)), fun w80 e82 => ?_⟩
              have H81 := H78.ext e82
              exact tt_leaf ⟨b55, rfl, (H81.pick (m := [_, _]) [0, 3] rfl (by decide))⟩ ⟨rfl, rfl, trivial⟩ (by repeat (first | exact kp_refl | refine kp_app rfl rfl ?_ | refine kp_cons rfl ?_))
            refine tt_alt ?_ ?_
            · skip
              refine tt_op rfl (Yd.op (y_ext rfl rfl rfl)) rfl rfl ?_
              rintro _ _ ⟨rfl, rfl⟩
              refine ⟨(H33.pick (m := [_, _, _]) [2, 3, 4] rfl (by decide)), fun w83 e85 => ?_⟩
              have H84 := H33.ext e85
              refine tt_alt ?_ ?_
              · skip
                refine tt_op rfl (Yd.op (y_ext rfl rfl rfl)) rfl rfl ?_
                rintro _ _ ⟨rfl, rfl⟩
                refine ⟨(H84.pick (m := [_, _, _]) [2, 3, 4] rfl (by decide)), fun w86 e88 => ?_⟩
                have H87 := H84.ext e88
                refine tt_op rfl (op_alloc H87 rfl kfturn4_1) rfl rfl ?_
                rintro _ w90 ⟨b89, rfl, H91⟩
                refine ⟨(H91.pick (m := [_, _, _]) [3, 4, 5] rfl (by decide)), fun w92 e94 => ?_⟩
                have H93 := H91.ext e94
                refine tt_op rfl (op_st (i := 0) (vs := [.int _ _, .int _ _, .slice _ _ _]) H93 rfl rfl rfl rfl rfl kfturn4_2 rfl rfl rfl) rfl rfl ?_
                rintro _ w95 H96
                refine ⟨(H96.pick (m := [_, _, _]) [3, 4, 5] rfl (by decide)), fun w97 e99 => ?_⟩
                have H98 := H96.ext e99
                refine tt_op rfl (Yd.op (y_asg rfl rfl)) rfl rfl ?_
                rintro _ _ ⟨rfl, rfl⟩
                refine ⟨(H98.pick (m := [_, _, _]) [3, 4, 5] rfl (by decide)), fun w100 e102 => ?_⟩
                have H101 := H98.ext e102
                exact tt_leaf ⟨b89, rfl, (H101.pick (m := [_, _]) [0, 3] rfl (by decide))⟩ ⟨rfl, rfl, trivial⟩ (by repeat (first | exact kp_refl | refine kp_app rfl rfl ?_ | refine kp_cons rfl ?_))
              refine tt_op rfl (op_alloc H84 rfl kfturn4_1) rfl rfl ?_
              rintro _ w104 ⟨b103, rfl, H105⟩
              refine ⟨(H105.pick (m := [_, _, _]) [3, 4, 5] rfl (by decide)), fun w106 e108 => ?_⟩
              have H107 := H105.ext e108
              refine tt_op rfl (Yd.op (y_ext rfl rfl rfl)) rfl rfl ?_
              rintro _ _ ⟨rfl, rfl⟩
              refine ⟨(H107.pick (m := [_, _, _]) [3, 4, 5] rfl (by decide)), fun w109 e111 => ?_⟩
              have H110 := H107.ext e111
              refine tt_op rfl (op_st (i := 0) (vs := [.int _ _, .int _ _, .slice _ _ _]) H110 rfl rfl rfl rfl rfl kfturn4_2 rfl rfl rfl) rfl rfl ?_
              rintro _ w112 H113
              refine ⟨(H113.pick (m := [_, _, _]) [3, 4, 5] rfl (by decide)), fun w114 e116 => ?_⟩
              have H115 := H113.ext e116
              refine tt_op rfl (Yd.op (y_asg rfl rfl)) rfl rfl ?_
              rintro _ _ ⟨rfl, rfl⟩
              refine ⟨(H115.pick (m := [_, _, _]) [3, 4, 5] rfl (by decide)), fun w117 e119 => ?_⟩
              have H118 := H115.ext e119
              exact tt_leaf ⟨b103, rfl, (H118.pick (m := [_, _]) [0, 3] rfl (by decide))⟩ ⟨rfl, rfl, trivial⟩ (by repeat (first | exact kp_refl | refine kp_app rfl rfl ?_ | refine kp_cons rfl ?_))
            refine tt_op rfl (op_alloc H33 rfl kfturn4_1) rfl rfl ?_
            rintro _ w121 ⟨b120, rfl, H122⟩
            refine ⟨(H122.pick (m := [_, _, _]) [3, 4, 5] rfl (by decide)), fun w123 e125 => ?_⟩
            have H124 := H122.ext e125
            refine tt_alt ?_ ?_
            · skip
              refine tt_op rfl (Yd.op (y_ext rfl rfl rfl)) rfl rfl ?_
              rintro _ _ ⟨rfl, rfl⟩
              refine ⟨(H124.pick (m := [_, _, _]) [3, 4, 5] rfl (by decide)), fun w126 e128 => ?_⟩
              have H127 := H124.ext e128
              refine tt_alt ?_ ?_
              · skip
                refine tt_op rfl (Yd.op (y_ext rfl rfl rfl)) rfl rfl ?_
                rintro _ _ ⟨rfl, rfl⟩
                refine ⟨(H127.pick (m := [_, _, _]) [3, 4, 5] rfl (by decide)), fun w129 e131 => ?_⟩
                have H130 := H127.ext e131
                refine tt_op rfl (op_st (i := 0) (vs := [.int _ _, .int _ _, .slice _ _ _]) H130 rfl rfl rfl rfl rfl kfturn4_2 rfl rfl rfl) rfl rfl ?_
                rintro _ w132 H133
                refine ⟨(H133.pick (m := [_, _, _]) [3, 4, 5] rfl (by decide)), fun w134 e136 => ?_⟩
                have H135 := H133.ext e136
                refine tt_op rfl (Yd.op (y_asg rfl rfl)) rfl rfl ?_
                rintro _ _ ⟨rfl, rfl⟩
                refine ⟨(H135.pick (m := [_, _, _]) [3, 4, 5] rfl (by decide)), fun w137 e139 => ?_⟩
                have H138 := H135.ext e139
                exact tt_leaf ⟨b120, rfl, (H138.pick (m := [_, _]) [0, 3] rfl (by decide))⟩ ⟨rfl, rfl, trivial⟩ (by repeat (first | exact kp_refl | refine kp_app rfl rfl ?_ | refine kp_cons rfl ?_))
              refine tt_op rfl (op_st (i := 0) (vs := [.int _ _, .int _ _, .slice _ _ _]) H127 rfl rfl rfl rfl rfl kfturn4_2 rfl rfl rfl) rfl rfl ?_
              rintro _ w140 H141
              refine ⟨(H141.pick (m := [_, _, _]) [3, 4, 5] rfl (by decide)), fun w142 e144 => ?_⟩
              have H143 := H141.ext e144
              refine tt_op rfl (Yd.op (y_ext rfl rfl rfl)) rfl rfl ?_
              rintro _ _ ⟨rfl, rfl⟩
              refine ⟨(H143.pick (m := [_, _, _]) [3, 4, 5] rfl (by decide)), fun w145 e147 => ?_⟩
              have H146 := H143.ext e147
              refine tt_op rfl (Yd.op (y_asg rfl rfl)) rfl rfl ?_
              rintro _ _ ⟨rfl, rfl⟩
              refine ⟨(H146.pick (m := [_, _, _]) [3, 4, 5] rfl (by decide)), fun w148 e150 => ?_⟩
              have H149 := H146.ext e150
              exact tt_leaf ⟨b120, rfl, (H149.pick (m := [_, _]) [0, 3] rfl (by decide))⟩ ⟨rfl, rfl, trivial⟩ (by repeat (first | exact kp_refl | refine kp_app rfl rfl ?_ | refine kp_cons rfl ?_))
            refine tt_op rfl (Yd.op (y_ext rfl rfl rfl)) rfl rfl ?_
            rintro _ _ ⟨rfl, rfl⟩
            refine ⟨(H124.pick (m := [_, _, _]) [3, 4, 5] rfl (by decide)), fun w151 e153 => ?_⟩
            have H152 := H124.ext e153
            refine tt_op rfl (Yd.op (y_ext rfl rfl rfl)) rfl rfl ?_
            rintro _ _ ⟨rfl, rfl⟩
            refine ⟨(H152.pick (m := [_, _, _]) [3, 4, 5] rfl (by decide)), fun w154 e156 => ?_⟩
            have H155 := H152.ext e156
            refine tt_op rfl (op_st (i := 0) (vs := [.int _ _, .int _ _, .slice _ _ _]) H155 rfl rfl rfl rfl rfl kfturn4_2 rfl rfl rfl) rfl rfl ?_
            rintro _ w157 H158
            refine ⟨(H158.pick (m := [_, _, _]) [3, 4, 5] rfl (by decide)), fun w159 e161 => ?_⟩
            have H160 := H158.ext e161
            refine tt_op rfl (Yd.op (y_asg rfl rfl)) rfl rfl ?_
            rintro _ _ ⟨rfl, rfl⟩
            refine ⟨(H160.pick (m := [_, _, _]) [3, 4, 5] rfl (by decide)), fun w162 e164 => ?_⟩
            have H163 := H160.ext e164
            exact tt_leaf ⟨b120, rfl, (H163.pick (m := [_, _]) [0, 3] rfl (by decide))⟩ ⟨rfl, rfl, trivial⟩ (by repeat (first | exact kp_refl | refine kp_app rfl rfl ?_ | refine kp_cons rfl ?_))
          refine tt_op rfl (op_alloc H30 rfl kfturn4_1) rfl rfl ?_
          rintro _ w166 ⟨b165, rfl, H167⟩
          refine ⟨(H167.pick (m := [_, _, _]) [3, 4, 5] rfl (by decide)), fun w168 e170 => ?_⟩
          have H169 := H167.ext e170
          refine tt_op rfl (Yd.op (y_mov rfl rfl)) rfl rfl ?_
          rintro _ _ ⟨rfl, rfl⟩
          refine ⟨(H169.pick (m := [_, _, _]) [3, 4, 5] rfl (by decide)), fun w171 e173 => ?_⟩
          have H172 := H169.ext e173
          refine tt_alt ?_ ?_
          · skip
            refine tt_op rfl (Yd.op (y_ext rfl rfl rfl)) rfl rfl ?_
            rintro _ _ ⟨rfl, rfl⟩
            refine ⟨(H172.pick (m := [_, _, _]) [3, 4, 5] rfl (by decide)), fun w174 e176 => ?_⟩
            have H175 := H172.ext e176
            refine tt_alt ?_ ?_
            · skip
              refine tt_op rfl (Yd.op (y_ext rfl rfl rfl)) rfl rfl ?_
              rintro _ _ ⟨rfl, rfl⟩
              refine ⟨(H175.pick (m := [_, _, _]) [3, 4, 5] rfl (by decide)), fun w177 e179 => ?_⟩
              have H178 := H175.ext e179
              refine tt_op rfl (op_st (i := 0) (vs := [.int _ _, .int _ _, .slice _ _ _]) H178 rfl rfl rfl rfl rfl kfturn4_2 rfl rfl rfl) rfl rfl ?_
              rintro _ w180 H181
              refine ⟨(H181.pick (m := [_, _, _]) [3, 4, 5] rfl (by decide)), fun w182 e184 => ?_⟩
              have H183 := H181.ext e184
              refine tt_op rfl (Yd.op (y_asg rfl rfl)) rfl rfl ?_
              rintro _ _ ⟨rfl, rfl⟩
              refine ⟨(H183.pick (m := [_, _, _]) [3, 4, 5] rfl (by decide)), fun w185 e187 => ?_⟩
              have H186 := H183.ext e187
              exact tt_leaf ⟨b165, rfl, (H186.pick (m := [_, _]) [0, 3] rfl (by decide))⟩ ⟨rfl, rfl, trivial⟩ (by repeat (first | exact kp_refl | refine kp_app rfl rfl ?_ | refine kp_cons rfl ?_))
            refine tt_op rfl (op_st (i := 0) (vs := [.int _ _, .int _ _, .slice _ _ _]) H175 rfl rfl rfl rfl rfl kfturn4_2 rfl rfl rfl) rfl rfl ?_
            rintro _ w188 H189
            refine ⟨(H189.pick (m := [_, _, _]) [3, 4, 5] rfl (by decide)), fun w190 e192 => ?_⟩
            have H191 := H189.ext e192
            refine tt_op rfl (Yd.op (y_ext rfl rfl rfl)) rfl rfl ?_
            rintro _ _ ⟨rfl, rfl⟩
            refine ⟨(H191.pick (m := [_, _, _]) [3, 4, 5] rfl (by decide)), fun w193 e195 => ?_⟩
            have H194 := H191.ext e195
            refine tt_op rfl (Yd.op (y_asg rfl rfl)) rfl rfl ?_
            rintro _ _ ⟨rfl, rfl⟩
            refine ⟨(H194.pick (m := [_, _, _]) [3, 4, 5] rfl (by decide)), fun w196 e198 => ?_⟩
            have H197 := H194.ext e198
            exact tt_leaf ⟨b165, rfl, (H197.pick (m := [_, _]) [0, 3] rfl (by decide))⟩ ⟨rfl, rfl, trivial⟩ (by repeat (first | exact kp_refl | refine kp_app rfl rfl ?_ | refine kp_cons rfl ?_))
          refine tt_op rfl (Yd.op (y_ext rfl rfl rfl)) rfl rfl ?_
          rintro _ _ ⟨rfl, rfl⟩
          refine ⟨(H172.pick (m := [_, _, _]) [3, 4, 5] rfl (by decide)), fun w199 e201 => ?_⟩
          have H200 := H172.ext e201
          refine tt_op rfl (Yd.op (y_ext rfl rfl rfl)) rfl rfl ?_
          rintro _ _ ⟨rfl, rfl⟩
          refine ⟨(H200.pick (m := [_, _, _]) [3, 4, 5] rfl (by decide)), fun w202 e204 => ?_⟩
          have H203 := H200.ext e204
          refine tt_op rfl (op_st (i := 0) (vs := [.int _ _, .int _ _, .slice _ _ _]) H203 rfl rfl rfl rfl rfl kfturn4_2 rfl rfl rfl) rfl rfl ?_
          rintro _ w205 H206
          refine ⟨(H206.pick (m := [_, _, _]) [3, 4, 5] rfl (by decide)), fun w207 e209 => ?_⟩
          have H208 := H206.ext e209
          refine tt_op rfl (Yd.op (y_asg rfl rfl)) rfl rfl ?_
          rintro _ _ ⟨rfl, rfl⟩
          refine ⟨(H208.pick (m := [_, _, _]) [3, 4, 5] rfl (by decide)), fun w210 e212 => ?_⟩
          have H211 := H208.ext e212
          exact tt_leaf ⟨b165, rfl, (H211.pick (m := [_, _]) [0, 3] rfl (by decide))⟩ ⟨rfl, rfl, trivial⟩ (by repeat (first | exact kp_refl | refine kp_app rfl rfl ?_ | refine kp_cons rfl ?_))
        refine tt_op rfl (op_alloc H24 rfl kfturn4_1) rfl rfl ?_
        rintro _ w214 ⟨b213, rfl, H215⟩
        refine ⟨(H215.pick (m := [_, _, _]) [3, 4, 5] rfl (by decide)), fun w216 e218 => ?_⟩
        have H217 := H215.ext e218
        refine tt_op rfl (op_call (mBelow_n h a A13 c14 (swV V a h) h2 a2 A21 c22 (swV V2 a2 h2) _ ⟨s3, s4, s1, s2⟩ (H217.rd (i := 2) rfl) swV_len ⟨t3, t4, t1, t2⟩ (H217.rd (i := 1) rfl) swV_len hn) rfl kfturn4_20 ⟨rfl, rfl, trivial⟩) rfl rfl ?_
        rintro _ w220 ⟨rfl, e219⟩
        have H221 := H217.ext e219
        refine ⟨(H221.pick (m := [_, _, _]) [3, 4, 5] rfl (by decide)), fun w222 e224 => ?_⟩
        have H223 := H221.ext e224
        refine tt_op rfl (Yd.op (y_mov rfl rfl)) rfl rfl ?_
        rintro _ _ ⟨rfl, rfl⟩
        refine ⟨(H223.pick (m := [_, _, _]) [3, 4, 5] rfl (by decide)), fun w225 e227 => ?_⟩
        have H226 := H223.ext e227
        refine tt_alt ?_ ?_
        · skip
          refine tt_op rfl (Yd.op (y_ext rfl rfl rfl)) rfl rfl ?_
          rintro _ _ ⟨rfl, rfl⟩
          refine ⟨(H226.pick (m := [_, _, _]) [3, 4, 5] rfl (by decide)), fun w228 e230 => ?_⟩
          have H229 := H226.ext e230
          refine tt_alt ?_ ?_
          · skip
            refine tt_op rfl (Yd.op (y_ext rfl rfl rfl)) rfl rfl ?_
            rintro _ _ ⟨rfl, rfl⟩
            refine ⟨(H229.pick (m := [_, _, _]) [3, 4, 5] rfl (by decide)), fun w231 e233 => ?_⟩
            have H232 := H229.ext e233
            refine tt_op rfl (op_st (i := 0) (vs := [.int _ _, .int _ _, .slice _ _ _]) H232 rfl rfl rfl rfl rfl kfturn4_2 rfl rfl rfl) rfl rfl ?_
            rintro _ w234 H235
            refine ⟨(H235.pick (m := [_, _, _]) [3, 4, 5] rfl (by decide)), fun w236 e238 => ?_⟩
            have H237 := H235.ext e238
            refine tt_op rfl (Yd.op (y_asg rfl rfl)) rfl rfl ?_
            rintro _ _ ⟨rfl, rfl⟩
            refine ⟨(H237.pick (m := [_, _, _]) [3, 4, 5] rfl (by decide)), fun w239 e241 => ?_⟩
            have H240 := H237.ext e241
            exact tt_leaf ⟨b213, rfl, (H240.pick (m := [_, _]) [0, 3] rfl (by decide))⟩ ⟨rfl, rfl, trivial⟩ (by repeat (first | exact kp_refl | refine kp_app rfl rfl ?_ | refine kp_cons rfl ?_))
          refine tt_op rfl (op_st (i := 0) (vs := [.int _ _, .int _ _, .slice _ _ _]) H229 rfl rfl rfl rfl rfl kfturn4_2 rfl rfl rfl) rfl rfl ?_
          rintro _ w242 H243
          refine ⟨(H243.pick (m := [_, _, _]) [3, 4, 5] rfl (by decide)), fun w244 e246 => ?_⟩
          have H245 := H243.ext e246
          refine tt_op rfl (Yd.op (y_ext rfl rfl rfl)) rfl rfl ?_
          rintro _ _ ⟨rfl, rfl⟩
          refine ⟨(H245.pick (m := [_, _, _]) [3, 4, 5] rfl (by decide)), fun w247 e249 => ?_⟩
          have H248 := H245.ext e249
          refine tt_op rfl (Yd.op (y_asg rfl rfl)) rfl rfl ?_
          rintro _ _ ⟨rfl, rfl⟩
          refine ⟨(H248.pick (m := [_, _, _]) [3, 4, 5] rfl (by decide)), fun w250 e252 => ?_⟩
          have H251 := H248.ext e252
          exact tt_leaf ⟨b213, rfl, (H251.pick (m := [_, _]) [0, 3] rfl (by decide))⟩ ⟨rfl, rfl, trivial⟩ (by repeat (first | exact kp_refl | refine kp_app rfl rfl ?_ | refine kp_cons rfl ?_))
        refine tt_op rfl (Yd.op (y_ext rfl rfl rfl)) rfl rfl ?_
        rintro _ _ ⟨rfl, rfl⟩
        refine ⟨(H226.pick (m := [_, _, _]) [3, 4, 5] rfl (by decide)), fun w253 e255 => ?_⟩
        have H254 := H226.ext e255
        refine tt_op rfl (Yd.op (y_ext rfl rfl rfl)) rfl rfl ?_
        rintro _ _ ⟨rfl, rfl⟩
        refine ⟨(H254.pick (m := [_, _, _]) [3, 4, 5] rfl (by decide)), fun w256 e258 => ?_⟩
        have H257 := H254.ext e258
        refine tt_op rfl (op_st (i := 0) (vs := [.int _ _, .int _ _, .slice _ _ _]) H257 rfl rfl rfl rfl rfl kfturn4_2 rfl rfl rfl) rfl rfl ?_
        rintro _ w259 H260
        refine ⟨(H260.pick (m := [_, _, _]) [3, 4, 5] rfl (by decide)), fun w261 e263 => ?_⟩
        have H262 := H260.ext e263
        refine tt_op rfl (Yd.op (y_asg rfl rfl)) rfl rfl ?_
        rintro _ _ ⟨rfl, rfl⟩
        refine ⟨(H262.pick (m := [_, _, _]) [3, 4, 5] rfl (by decide)), fun w264 e266 => ?_⟩
        have H265 := H262.ext e266
        exact tt_leaf ⟨b213, rfl, (H265.pick (m := [_, _]) [0, 3] rfl (by decide))⟩ ⟨rfl, rfl, trivial⟩ (by repeat (first | exact kp_refl | refine kp_app rfl rfl ?_ | refine kp_cons rfl ?_))
      refine tt_op rfl (op_alloc H16 rfl kfturn4_1) rfl rfl ?_
      rintro _ w268 ⟨b267, rfl, H269⟩
      refine ⟨(H269.pick (m := [_, _, _]) [2, 3, 4] rfl (by decide)), fun w270 e272 => ?_⟩
      have H271 := H269.ext e272
      refine tt_op rfl (op_call (mSwap a2 h2 B cap2 V2 _ s' (hr2.below H271.base) hl2) rfl kfturn4_19 ⟨rfl, trivial⟩) rfl rfl ?_
      rintro _ w274 ⟨A276, c277, rfl, k273⟩
      have H275 := H271.call k273
      refine ⟨(H275.pick (m := [_, _, _]) [3, 4, 5] rfl (by decide)), fun w278 e280 => ?_⟩
      have H279 := H275.ext e280
      refine tt_op rfl (op_call (mBelow_n h a A13 c14 (swV V a h) h2 a2 A276 c277 (swV V2 a2 h2) _ ⟨s3, s4, s1, s2⟩ (H279.rd (i := 2) rfl) swV_len ⟨t3, t4, t1, t2⟩ (H279.rd (i := 0) rfl) swV_len hn) rfl kfturn4_20 ⟨rfl, rfl, trivial⟩) rfl rfl ?_
      rintro _ w282 ⟨rfl, e281⟩
      have H283 := H279.ext e281
      refine ⟨(H283.pick (m := [_, _, _]) [3, 4, 5] rfl (by decide)), fun w284 e286 => ?_⟩
      have H285 := H283.ext e286
      refine tt_op rfl (Yd.op (y_mov rfl rfl)) rfl rfl ?_
      rintro _ _ ⟨rfl, rfl⟩
      refine ⟨(H285.pick (m := [_, _, _]) [3, 4, 5] rfl (by decide)), fun w287 e289 => ?_⟩
      have H288 := H285.ext e289
      refine tt_alt ?_ ?_
      · skip
        refine tt_op rfl (Yd.op (y_ext rfl rfl rfl)) rfl rfl ?_
        rintro _ _ ⟨rfl, rfl⟩
        refine ⟨(H288.pick (m := [_, _, _]) [3, 4, 5] rfl (by decide)), fun w290 e292 => ?_⟩
        have H291 := H288.ext e292
        refine tt_alt ?_ ?_
        · skip
          refine tt_op rfl (Yd.op (y_ext rfl rfl rfl)) rfl rfl ?_
          rintro _ _ ⟨rfl, rfl⟩
          refine ⟨(H291.pick (m := [_, _, _]) [3, 4, 5] rfl (by decide)), fun w293 e295 => ?_⟩
          have H294 := H291.ext e295
          refine tt_op rfl (op_st (i := 1) (vs := [.int _ _, .int _ _, .slice _ _ _]) H294 rfl rfl rfl rfl rfl kfturn4_2 rfl rfl rfl) rfl rfl ?_
          rintro _ w296 H297
          refine ⟨(H297.pick (m := [_, _, _]) [3, 4, 5] rfl (by decide)), fun w298 e300 => ?_⟩
          have H299 := H297.ext e300
          refine tt_op rfl (Yd.op (y_asg rfl rfl)) rfl rfl ?_
          rintro _ _ ⟨rfl, rfl⟩
          refine ⟨(H299.pick (m := [_, _, _]) [3, 4, 5] rfl (by decide)), fun w301 e303 => ?_⟩
          have H302 := H299.ext e303
          exact tt_leaf ⟨b267, rfl, (H302.pick (m := [_, _]) [1, 3] rfl (by decide))⟩ ⟨rfl, rfl, trivial⟩ (by repeat (first | exact kp_refl | refine kp_app rfl rfl ?_ | refine kp_cons rfl ?_))
        refine tt_op rfl (op_st (i := 1) (vs := [.int _ _, .int _ _, .slice _ _ _]) H291 rfl rfl rfl rfl rfl kfturn4_2 rfl rfl rfl) rfl rfl ?_
        rintro _ w304 H305
        refine ⟨(H305.pick (m := [_, _, _]) [3, 4, 5] rfl (by decide)), fun w306 e308 => ?_⟩
        have H307 := H305.ext e308
        refine tt_op rfl (Yd.op (y_ext rfl rfl rfl)) rfl rfl ?_
        rintro _ _ ⟨rfl, rfl⟩
        refine ⟨(H307.pick (m := [_, _, _]) [3, 4, 5] rfl (by decide)), fun w309 e311 => ?_⟩
        have H310 := H307.ext e311
        refine tt_op rfl (Yd.op (y_asg rfl rfl)) rfl rfl ?_
        rintro _ _ ⟨rfl, rfl⟩
        refine ⟨(H310.pick (m := [_, _, _]) [3, 4, 5] rfl (by decide)), fun w312 e314 => ?_⟩
        have H313 := H310.ext e314
        exact tt_leaf ⟨b267, rfl, (H313.pick (m := [_, _]) [1, 3] rfl (by decide))⟩ ⟨rfl, rfl, trivial⟩ (by repeat (first | exact kp_refl | refine kp_app rfl rfl ?_ | refine kp_cons rfl ?_))
      refine tt_op rfl (Yd.op (y_ext rfl rfl rfl)) rfl rfl ?_
      rintro _ _ ⟨rfl, rfl⟩
      refine ⟨(H288.pick (m := [_, _, _]) [3, 4, 5] rfl (by decide)), fun w315 e317 => ?_⟩
      have H316 := H288.ext e317
      refine tt_op rfl (Yd.op (y_ext rfl rfl rfl)) rfl rfl ?_
      rintro _ _ ⟨rfl, rfl⟩
      refine ⟨(H316.pick (m := [_, _, _]) [3, 4, 5] rfl (by decide)), fun w318 e320 => ?_⟩
      have H319 := H316.ext e320
      refine tt_op rfl (op_st (i := 1) (vs := [.int _ _, .int _ _, .slice _ _ _]) H319 rfl rfl rfl rfl rfl kfturn4_2 rfl rfl rfl) rfl rfl ?_
      rintro _ w321 H322
      refine ⟨(H322.pick (m := [_, _, _]) [3, 4, 5] rfl (by decide)), fun w323 e325 => ?_⟩
      have H324 := H322.ext e325
      refine tt_op rfl (Yd.op (y_asg rfl rfl)) rfl rfl ?_
      rintro _ _ ⟨rfl, rfl⟩
      refine ⟨(H324.pick (m := [_, _, _]) [3, 4, 5] rfl (by decide)), fun w326 e328 => ?_⟩
      have H327 := H324.ext e328
      exact tt_leaf ⟨b267, rfl, (H327.pick (m := [_, _]) [1, 3] rfl (by decide))⟩ ⟨rfl, rfl, trivial⟩ (by repeat (first | exact kp_refl | refine kp_app rfl rfl ?_ | refine kp_cons rfl ?_))
    refine tt_op rfl (op_alloc HX rfl kfturn4_1) rfl rfl ?_
    rintro _ w330 ⟨b329, rfl, H331⟩
    refine ⟨(H331.pick (m := [_, _, _]) [1, 2, 3] rfl (by decide)), fun w332 e334 => ?_⟩
    have H333 := H331.ext e334
    refine tt_op rfl (op_call (mSwap a h A cap V _ s (hr.below H333.base) hl) rfl kfturn4_19 ⟨rfl, trivial⟩) rfl rfl ?_
    rintro _ w336 ⟨A338, c339, rfl, k335⟩
    have H337 := H333.call k335
    refine ⟨(H337.pick (m := [_, _, _]) [2, 3, 4] rfl (by decide)), fun w340 e342 => ?_⟩
    have H341 := H337.ext e342
    refine tt_op rfl (op_call (mSwap a2 h2 B cap2 V2 _ s' (hr2.below H341.base) hl2) rfl kfturn4_19 ⟨rfl, trivial⟩) rfl rfl ?_
    rintro _ w344 ⟨A346, c347, rfl, k343⟩
    have H345 := H341.call k343
    refine ⟨(H345.pick (m := [_, _, _]) [3, 4, 5] rfl (by decide)), fun w348 e350 => ?_⟩
    have H349 := H345.ext e350
    refine tt_op rfl (op_call (mBelow_n h a A338 c339 (swV V a h) h2 a2 A346 c347 (swV V2 a2 h2) _ ⟨s3, s4, s1, s2⟩ (H349.rd (i := 1) rfl) swV_len ⟨t3, t4, t1, t2⟩ (H349.rd (i := 0) rfl) swV_len hn) rfl kfturn4_20 ⟨rfl, rfl, trivial⟩) rfl rfl ?_
    rintro _ w352 ⟨rfl, e351⟩
    have H353 := H349.ext e351
    refine ⟨(H353.pick (m := [_, _, _]) [3, 4, 5] rfl (by decide)), fun w354 e356 => ?_⟩
    have H355 := H353.ext e356
    refine tt_op rfl (Yd.op (y_mov rfl rfl)) rfl rfl ?_
    rintro _ _ ⟨rfl, rfl⟩
    refine ⟨(H355.pick (m := [_, _, _]) [3, 4, 5] rfl (by decide)), fun w357 e359 => ?_⟩
    have H358 := H355.ext e359
    refine tt_alt ?_ ?_
    · skip
      refine tt_op rfl (Yd.op (y_ext rfl rfl rfl)) rfl rfl ?_
      rintro _ _ ⟨rfl, rfl⟩
      refine ⟨(H358.pick (m := [_, _, _]) [3, 4, 5] rfl (by decide)), fun w360 e362 => ?_⟩
      have H361 := H358.ext e362
      refine tt_alt ?_ ?_
      · skip
        refine tt_op rfl (Yd.op (y_ext rfl rfl rfl)) rfl rfl ?_
        rintro _ _ ⟨rfl, rfl⟩
        refine ⟨(H361.pick (m := [_, _, _]) [3, 4, 5] rfl (by decide)), fun w363 e365 => ?_⟩
        have H364 := H361.ext e365
        refine tt_op rfl (op_st (i := 2) (vs := [.int _ _, .int _ _, .slice _ _ _]) H364 rfl rfl rfl rfl rfl kfturn4_2 rfl rfl rfl) rfl rfl ?_
        rintro _ w366 H367
        refine ⟨(H367.pick (m := [_, _, _]) [3, 4, 5] rfl (by decide)), fun w368 e370 => ?_⟩
        have H369 := H367.ext e370
        refine tt_op rfl (Yd.op (y_asg rfl rfl)) rfl rfl ?_
        rintro _ _ ⟨rfl, rfl⟩
        refine ⟨(H369.pick (m := [_, _, _]) [3, 4, 5] rfl (by decide)), fun w371 e373 => ?_⟩
        have H372 := H369.ext e373
        exact tt_leaf ⟨b329, rfl, (H372.pick (m := [_, _]) [2, 3] rfl (by decide))⟩ ⟨rfl, rfl, trivial⟩ (by repeat (first | exact kp_refl | refine kp_app rfl rfl ?_ | refine kp_cons rfl ?_))
      refine tt_op rfl (op_st (i := 2) (vs := [.int _ _, .int _ _, .slice _ _ _]) H361 rfl rfl rfl rfl rfl kfturn4_2 rfl rfl rfl) rfl rfl ?_
      rintro _ w374 H375
      refine ⟨(H375.pick (m := [_, _, _]) [3, 4, 5] rfl (by decide)), fun w376 e378 => ?_⟩
      have H377 := H375.ext e378
      refine tt_op rfl (Yd.op (y_ext rfl rfl rfl)) rfl rfl ?_
      rintro _ _ ⟨rfl, rfl⟩
      refine ⟨(H377.pick (m := [_, _, _]) [3, 4, 5] rfl (by decide)), fun w379 e381 => ?_⟩
      have H380 := H377.ext e381
      refine tt_op rfl (Yd.op (y_asg rfl rfl)) rfl rfl ?_
      rintro _ _ ⟨rfl, rfl⟩
      refine ⟨(H380.pick (m := [_, _, _]) [3, 4, 5] rfl (by decide)), fun w382 e384 => ?_⟩
      have H383 := H380.ext e384
      exact tt_leaf ⟨b329, rfl, (H383.pick (m := [_, _]) [2, 3] rfl (by decide))⟩ ⟨rfl, rfl, trivial⟩ (by repeat (first | exact kp_refl | refine kp_app rfl rfl ?_ | refine kp_cons rfl ?_))
    refine tt_op rfl (Yd.op (y_ext rfl rfl rfl)) rfl rfl ?_
    rintro _ _ ⟨rfl, rfl⟩
    refine ⟨(H358.pick (m := [_, _, _]) [3, 4, 5] rfl (by decide)), fun w385 e387 => ?_⟩
    have H386 := H358.ext e387
    refine tt_op rfl (Yd.op (y_ext rfl rfl rfl)) rfl rfl ?_
    rintro _ _ ⟨rfl, rfl⟩
    refine ⟨(H386.pick (m := [_, _, _]) [3, 4, 5] rfl (by decide)), fun w388 e390 => ?_⟩
    have H389 := H386.ext e390
    refine tt_op rfl (op_st (i := 2) (vs := [.int _ _, .int _ _, .slice _ _ _]) H389 rfl rfl rfl rfl rfl kfturn4_2 rfl rfl rfl) rfl rfl ?_
    rintro _ w391 H392
    refine ⟨(H392.pick (m := [_, _, _]) [3, 4, 5] rfl (by decide)), fun w393 e395 => ?_⟩
    have H394 := H392.ext e395
    refine tt_op rfl (Yd.op (y_asg rfl rfl)) rfl rfl ?_
    rintro _ _ ⟨rfl, rfl⟩
    refine ⟨(H394.pick (m := [_, _, _]) [3, 4, 5] rfl (by decide)), fun w396 e398 => ?_⟩
    have H397 := H394.ext e398
    exact tt_leaf ⟨b329, rfl, (H397.pick (m := [_, _]) [2, 3] rfl (by decide))⟩ ⟨rfl, rfl, trivial⟩ (by repeat (first | exact kp_refl | refine kp_app rfl rfl ?_ | refine kp_cons rfl ?_))
  · skip
    rintro M w400 ⟨b', rfl, H399⟩
    refine fn_next ?_
    refine cw_seq ?_
    refine cw_seq ?_
    refine cw_reg ?_
    refine ry (y_mov rfl rfl) rfl rfl ?_
    refine ry (y_neq rfl rfl rfl) rfl rfl ?_
    refine reg_nil ?_
    refine fn_next ?_
    refine cw_condd rfl (fun h401 => ?_) (fun h401 => ?_)
    · skip
      refine cw_seq ?_
      refine cw_reg ?_
      refine ry (y_ldb (i := 0) (cs := [_, _, _]) H399 rfl rfl kfturn4_3 rfl rfl) rfl rfl ?_
      refine ry (y_mov rfl rfl) rfl rfl ?_
      refine reg_op (op_st (i := 1) (vs := [.int _ _, .int _ _, .slice _ _ _]) H399 rfl rfl rfl rfl rfl kfturn4_2 rfl rfl rfl) rfl rfl ?_
      rintro _ w402 H403
      refine ry (y_asg rfl rfl) rfl rfl ?_
      refine reg_nil ?_
      refine fn_next ?_
      refine cw_ret ?_
      refine fn_then_ret ?_
      refine fn_retn (vs := [_, _]) rfl ⟨⟨_, rfl, load_agg (cs := [_, _, _]) kfturn4_3 rfl fun j v hv => by rw [Nat.zero_add]; exact H403.cell (i := 1) rfl hv⟩, rfl, trivial⟩ rfl ?_
      exact ⟨rfl, H403.base⟩
    · exact absurd (by decide) h401

set_option maxRecDepth 100000 in
theorem mBeside_s (a h : Nat) (A : Option Addr) (cap : Nat) (V : List Int) (a2 h2 : Nat) (B : Option Addr) (cap2 : Nat) (V2 : List Int) (w : World) (s : SzG a h) (hr : Rd w A (vi .i64 V)) (hl : V.length = a * h) (s' : SzG a2 h2) (hr2 : Rd w B (vi .i64 V2)) (hl2 : V2.length = a2 * h2) (hn : h = h2) (hs : ¬ a + a2 ≤ 1024) :
    Ret Try.prog 50 [.agg #[.int .i64 (a : Int), .int .i64 (h : Int), .slice A (a * h) cap], .agg #[.int .i64 (a2 : Int), .int .i64 (h2 : Int), .slice B (a2 * h2) cap2]] w (fun z w' => z = .tuple #[.agg #[.int .i64 0, .int .i64 0, .slice none 0 0], .int .i64 3] ∧ Below w.heap.size w w') := by
  obtain ⟨s1, s2, s3, s4⟩ := id s
  have hm := s.mul
  obtain ⟨t1, t2, t3, t4⟩ := id s'
  have hm2 := s'.mul
  refine ret_enter Try.func50 rfl rfl rfl ?_
  have H0 := HS.start w
  refine cw_seq ?_
  refine cw_reg ?_
  refine reg_op (op_box (cs := [.int _ _, .int _ _, .slice _ _ _]) H0 rfl rfl rfl) rfl rfl ?_
  rintro _ w2 ⟨b1, rfl, H3⟩
  refine reg_op (op_box (cs := [.int _ _, .int _ _, .slice _ _ _]) H3 rfl rfl rfl) rfl rfl ?_
  rintro _ w5 ⟨b4, rfl, H6⟩
  refine reg_op (op_alloc H6 rfl kfturn4_1) rfl rfl ?_
  rintro _ w8 ⟨b7, rfl, H9⟩
  refine ry (y_asg rfl rfl) rfl rfl ?_
  refine reg_nil ?_
  refine fn_next ?_
  refine cw_seq ?_
  refine cw_drawT H9 [0, 2] (.alt (.step 1 (.alt (.step 3 (.alt (.step 4 (.alt (.step 5 (.alt (.step 6 (.alt (.step 7 (.step 8 (.step 9 (.step 10 (.leaf))))) (.step 8 (.alt (.step 7 (.step 9 (.step 10 (.leaf)))) (.step 9 (.step 7 (.step 10 (.leaf)))))))) (.alt (.step 7 (.alt (.step 6 (.step 8 (.step 9 (.step 10 (.leaf))))) (.step 8 (.step 6 (.step 9 (.step 10 (.leaf))))))) (.step 8 (.alt (.step 6 (.alt (.step 7 (.step 9 (.step 10 (.leaf)))) (.step 9 (.step 7 (.step 10 (.leaf)))))) (.step 7 (.step 6 (.step 9 (.step 10 (.leaf)))))))))) (.step 8 (.step 5 (.alt (.step 6 (.alt (.step 7 (.step 9 (.step 10 (.leaf)))) (.step 9 (.step 7 (.step 10 (.leaf)))))) (.step 7 (.step 6 (.step 9 (.step 10 (.leaf)))))))))) (.step 8 (.step 4 (.step 5 (.alt (.step 6 (.alt (.step 7 (.step 9 (.step 10 (.leaf)))) (.step 9 (.step 7 (.step 10 (.leaf)))))) (.step 7 (.step 6 (.step 9 (.step 10 (.leaf))))))))))) (.step 8 (.step 3 (.step 4 (.step 5 (.alt (.step 6 (.alt (.step 7 (.step 9 (.step 10 (.leaf)))) (.step 9 (.step 7 (.step 10 (.leaf)))))) (.step 7 (.step 6 (.step 9 (.step 10 (.leaf)))))))))))) (.step 8 (.step 1 (.step 3 (.step 4 (.step 5 (.alt (.step 6 (.alt (.step 7 (.step 9 (.step 10 (.leaf)))) (.step 9 (.step 7 (.step 10 (.leaf)))))) (.step 7 (.step 6 (.step 9 (.step 10 (.leaf)))))))))))) (fun X HX => HX) (by kernel_rfl) (by kernel_rfl) (by rfl) ?_
  simp only [pick, List.getElem?_cons_succ, List.getElem?_cons_zero]
  refine hk_y (fun Y HY => y_ldb (i := 2) (cs := [_, _, _]) HY rfl rfl kfturn4_3 rfl rfl) rfl rfl ?_
  refine hk_y (fun Y HY => y_ldb (i := 1) (cs := [_, _, _]) HY rfl rfl kfturn4_3 rfl rfl) rfl rfl ?_
  refine hkt_nil [6, 7, 8, 10, 12, 13, 14, 15] (fun M wl => ∃ (b' : Nat), M = [(6, .pointer (some ⟨b', 0, none⟩)), (7, .int .i64 3)] ∧ HS w wl [Ob.blk b' [.int .i64 0, .int .i64 0, .slice none 0 0] 25, Ob.blk b7 [.int .i64 0, .int .i64 0, .slice none 0 0] 25]) (fun wX HX => ?_) ?_
  · skip
    refine tt_alt ?_ ?_
    · skip
      refine tt_op rfl (op_call (mSwap a h A cap V _ s (hr.below HX.base) hl) rfl kfturn4_19 ⟨rfl, trivial⟩) rfl rfl ?_
      rintro _ w11 ⟨A13, c14, rfl, k10⟩
      have H12 := HX.call k10
      refine ⟨(H12.pick (m := [_, _, _]) [1, 2, 3] rfl (by decide)), fun w15 e17 => ?_⟩
      have H16 := H12.ext e17
      refine tt_alt ?_ ?_
      · skip
        refine tt_op rfl (op_call (mSwap a2 h2 B cap2 V2 _ s' (hr2.below H16.base) hl2) rfl kfturn4_19 ⟨rfl, trivial⟩) rfl rfl ?_
        rintro _ w19 ⟨A21, c22, rfl, k18⟩
        have H20 := H16.call k18
        refine ⟨(H20.pick (m := [_, _, _]) [2, 3, 4] rfl (by decide)), fun w23 e25 => ?_⟩
        have H24 := H20.ext e25
        refine tt_alt ?_ ?_
        · skip
          refine tt_op rfl (op_call (mBelow_s h a A13 c14 (swV V a h) h2 a2 A21 c22 (swV V2 a2 h2) _ ⟨s3, s4, s1, s2⟩ (H24.rd (i := 1) rfl) swV_len ⟨t3, t4, t1, t2⟩ (H24.rd (i := 0) rfl) swV_len hn hs) rfl kfturn4_20 ⟨rfl, rfl, trivial⟩) rfl rfl ?_
          rintro _ w27 ⟨rfl, e26⟩
          have H28 := H24.ext e26
          refine ⟨(H28.pick (m := [_, _, _]) [2, 3, 4] rfl (by decide)), fun w29 e31 => ?_⟩
          have H30 := H28.ext e31
          refine tt_alt ?_ ?_
          · skip
            refine tt_op rfl (Yd.op (y_mov rfl rfl)) rfl rfl ?_
            rintro _ _ ⟨rfl, rfl⟩
            refine ⟨(H30.pick (m := [_, _, _]) [2, 3, 4] rfl (by decide)), fun w32 e34 => ?_⟩
            have H33 := H30.ext e34
            refine tt_alt ?_ ?_
            · skip
              refine tt_op rfl (Yd.op (y_ext rfl rfl rfl)) rfl rfl ?_
              rintro _ _ ⟨rfl, rfl⟩
              refine ⟨(H33.pick (m := [_, _, _]) [2, 3, 4] rfl (by decide)), fun w35 e37 => ?_⟩
              have H36 := H33.ext e37
              refine tt_alt ?_ ?_
              · skip
                refine tt_op rfl (Yd.op (y_ext rfl rfl rfl)) rfl rfl ?_
                rintro _ _ ⟨rfl, rfl⟩
                refine ⟨(H36.pick (m := [_, _, _]) [2, 3, 4] rfl (by decide)), fun w38 e40 => ?_⟩
                have H39 := H36.ext e40
                refine tt_op rfl (op_alloc H39 rfl kfturn4_1) rfl rfl ?_
                rintro _ w42 ⟨b41, rfl, H43⟩
                refine ⟨(H43.pick (m := [_, _, _]) [3, 4, 5] rfl (by decide)), fun w44 e46 => ?_⟩
                have H45 := H43.ext e46
                refine tt_op rfl (op_st (i := 0) (vs := [.int _ _, .int _ _, .slice _ _ _]) H45 rfl rfl rfl rfl rfl kfturn4_2 rfl rfl rfl) rfl rfl ?_
                rintro _ w47 H48
                refine ⟨(H48.pick (m := [_, _, _]) [3, 4, 5] rfl (by decide)), fun w49 e51 => ?_⟩
                have H50 := H48.ext e51
                refine tt_op rfl (Yd.op (y_asg rfl rfl)) rfl rfl ?_
                rintro _ _ ⟨rfl, rfl⟩
                refine ⟨(H50.pick (m := [_, _, _]) [3, 4, 5] rfl (by decide)), fun w52 e54 => ?_⟩
                have H53 := H50.ext e54
                exact tt_leaf ⟨b41, rfl, (H53.pick (m := [_, _]) [0, 3] rfl (by decide))⟩ ⟨rfl, rfl, trivial⟩ (by repeat (first | exact kp_refl | refine kp_app rfl rfl ?_ | refine kp_cons rfl ?_))
              refine tt_op rfl (op_alloc H36 rfl kfturn4_1) rfl rfl ?_
              rintro _ w56 ⟨b55, rfl, H57⟩
              refine ⟨(H57.pick (m := [_, _, _]) [3, 4, 5] rfl (by decide)), fun w58 e60 => ?_⟩
              have H59 := H57.ext e60
              refine tt_alt ?_ ?_
              · skip
                refine tt_op rfl (Yd.op (y_ext rfl rfl rfl)) rfl rfl ?_
                rintro _ _ ⟨rfl, rfl⟩
                refine ⟨(H59.pick (m := [_, _, _]) [3, 4, 5] rfl (by decide)), fun w61 e63 => ?_⟩
                have H62 := H59.ext e63
                refine tt_op rfl (op_st (i := 0) (vs := [.int _ _, .int _ _, .slice _ _ _]) H62 rfl rfl rfl rfl rfl kfturn4_2 rfl rfl rfl) rfl rfl ?_
                rintro _ w64 H65
                refine ⟨(H65.pick (m := [_, _, _]) [3, 4, 5] rfl (by decide)), fun w66 e68 => ?_⟩
                have H67 := H65.ext e68
                refine tt_op rfl (Yd.op (y_asg rfl rfl)) rfl rfl ?_
                rintro _ _ ⟨rfl, rfl⟩
                refine ⟨(H67.pick (m := [_, _, _]) [3, 4, 5] rfl (by decide)), fun w69 e71 => ?_⟩
                have H70 := H67.ext e71
                exact tt_leaf ⟨b55, rfl, (H70.pick (m := [_, _]) [0, 3] rfl (by decide))⟩ ⟨rfl, rfl, trivial⟩ (by repeat (first | exact kp_refl | refine kp_app rfl rfl ?_ | refine kp_cons rfl ?_))
              refine tt_op rfl (op_st (i := 0) (vs := [.int _ _, .int _ _, .slice _ _ _]) H59 rfl rfl rfl rfl rfl kfturn4_2 rfl rfl rfl) rfl rfl ?_
              rintro _ w72 H73
              refine ⟨(H73.pick (m := [_, _, _]) [3, 4, 5] rfl (by decide)), fun w74 e76 => ?_⟩
              have H75 := H73.ext e76
              refine tt_op rfl (Yd.op (y_ext rfl rfl rfl)) rfl rfl ?_
              rintro _ _ ⟨rfl, rfl⟩
              refine ⟨(H75.pick (m := [_, _, _]) [3, 4, 5] rfl (by decide)), fun w77 e79 => ?_⟩
              have H78 := H75.ext e79
              refine tt_op rfl (Yd.op (y_asg rfl rfl)) rfl rfl ?_
              rintro _ _ ⟨rfl, rfl⟩
              refine ⟨(H78.pick (m := [_, _, _]) [3, 4, 5] rfl (by decide)), fun w80 e82 => ?_⟩
              have H81 := H78.ext e82
              exact tt_leaf ⟨b55, rfl, (H81.pick (m := [_, _]) [0, 3] rfl (by decide))⟩ ⟨rfl, rfl, trivial⟩ (by repeat (first | exact kp_refl | refine kp_app rfl rfl ?_ | refine kp_cons rfl ?_))
            refine tt_alt ?_ ?_
            · skip
              refine tt_op rfl (Yd.op (y_ext rfl rfl rfl)) rfl rfl ?_
              rintro _ _ ⟨rfl, rfl⟩
              refine ⟨(H33.pick (m := [_, _, _]) [2, 3, 4] rfl (by decide)), fun w83 e85 => ?_⟩
              have H84 := H33.ext e85
              refine tt_alt ?_ ?_
              · skip
                refine tt_op rfl (Yd.op (y_ext rfl rfl rfl)) rfl rfl ?_
                rintro _ _ ⟨rfl, rfl⟩
                refine ⟨(H84.pick (m := [_, _, _]) [2, 3, 4] rfl (by decide)), fun w86 e88 => ?_⟩
                have H87 := H84.ext e88
                refine tt_op rfl (op_alloc H87 rfl kfturn4_1) rfl rfl ?_
                rintro _ w90 ⟨b89, rfl, H91⟩
                refine ⟨(H91.pick (m := [_, _, _]) [3, 4, 5] rfl (by decide)), fun w92 e94 => ?_⟩
                have H93 := H91.ext e94
                refine tt_op rfl (op_st (i := 0) (vs := [.int _ _, .int _ _, .slice _ _ _]) H93 rfl rfl rfl rfl rfl kfturn4_2 rfl rfl rfl) rfl rfl ?_
                rintro _ w95 H96
                refine ⟨(H96.pick (m := [_, _, _]) [3, 4, 5] rfl (by decide)), fun w97 e99 => ?_⟩
                have H98 := H96.ext e99
                refine tt_op rfl (Yd.op (y_asg rfl rfl)) rfl rfl ?_
                rintro _ _ ⟨rfl, rfl⟩
                refine ⟨(H98.pick (m := [_, _, _]) [3, 4, 5] rfl (by decide)), fun w100 e102 => ?_⟩
                have H101 := H98.ext e102
                exact tt_leaf ⟨b89, rfl, (H101.pick (m := [_, _]) [0, 3] rfl (by decide))⟩ ⟨rfl, rfl, trivial⟩ (by repeat (first | exact kp_refl | refine kp_app rfl rfl ?_ | refine kp_cons rfl ?_))
              refine tt_op rfl (op_alloc H84 rfl kfturn4_1) rfl rfl ?_
              rintro _ w104 ⟨b103, rfl, H105⟩
              refine ⟨(H105.pick (m := [_, _, _]) [3, 4, 5] rfl (by decide)), fun w106 e108 => ?_⟩
              have H107 := H105.ext e108
              refine tt_op rfl (Yd.op (y_ext rfl rfl rfl)) rfl rfl ?_
              rintro _ _ ⟨rfl, rfl⟩
              refine ⟨(H107.pick (m := [_, _, _]) [3, 4, 5] rfl (by decide)), fun w109 e111 => ?_⟩
              have H110 := H107.ext e111
              refine tt_op rfl (op_st (i := 0) (vs := [.int _ _, .int _ _, .slice _ _ _]) H110 rfl rfl rfl rfl rfl kfturn4_2 rfl rfl rfl) rfl rfl ?_
              rintro _ w112 H113
              refine ⟨(H113.pick (m := [_, _, _]) [3, 4, 5] rfl (by decide)), fun w114 e116 => ?_⟩
              have H115 := H113.ext e116
              refine tt_op rfl (Yd.op (y_asg rfl rfl)) rfl rfl ?_
              rintro _ _ ⟨rfl, rfl⟩
              refine ⟨(H115.pick (m := [_, _, _]) [3, 4, 5] rfl (by decide)), fun w117 e119 => ?_⟩
              have H118 := H115.ext e119
              exact tt_leaf ⟨b103, rfl, (H118.pick (m := [_, _]) [0, 3] rfl (by decide))⟩ ⟨rfl, rfl, trivial⟩ (by repeat (first | exact kp_refl | refine kp_app rfl rfl ?_ | refine kp_cons rfl ?_))
            refine tt_op rfl (op_alloc H33 rfl kfturn4_1) rfl rfl ?_
            rintro _ w121 ⟨b120, rfl, H122⟩
            refine ⟨(H122.pick (m := [_, _, _]) [3, 4, 5] rfl (by decide)), fun w123 e125 => ?_⟩
            have H124 := H122.ext e125
            refine tt_alt ?_ ?_
            · skip
              refine tt_op rfl (Yd.op (y_ext rfl rfl rfl)) rfl rfl ?_
              rintro _ _ ⟨rfl, rfl⟩
              refine ⟨(H124.pick (m := [_, _, _]) [3, 4, 5] rfl (by decide)), fun w126 e128 => ?_⟩
              have H127 := H124.ext e128
              refine tt_alt ?_ ?_
              · skip
                refine tt_op rfl (Yd.op (y_ext rfl rfl rfl)) rfl rfl ?_
                rintro _ _ ⟨rfl, rfl⟩
                refine ⟨(H127.pick (m := [_, _, _]) [3, 4, 5] rfl (by decide)), fun w129 e131 => ?_⟩
                have H130 := H127.ext e131
                refine tt_op rfl (op_st (i := 0) (vs := [.int _ _, .int _ _, .slice _ _ _]) H130 rfl rfl rfl rfl rfl kfturn4_2 rfl rfl rfl) rfl rfl ?_
                rintro _ w132 H133
                refine ⟨(H133.pick (m := [_, _, _]) [3, 4, 5] rfl (by decide)), fun w134 e136 => ?_⟩
                have H135 := H133.ext e136
                refine tt_op rfl (Yd.op (y_asg rfl rfl)) rfl rfl ?_
                rintro _ _ ⟨rfl, rfl⟩
                refine ⟨(H135.pick (m := [_, _, _]) [3, 4, 5] rfl (by decide)), fun w137 e139 => ?_⟩
                have H138 := H135.ext e139
                exact tt_leaf ⟨b120, rfl, (H138.pick (m := [_, _]) [0, 3] rfl (by decide))⟩ ⟨rfl, rfl, trivial⟩ (by repeat (first | exact kp_refl | refine kp_app rfl rfl ?_ | refine kp_cons rfl ?_))
              refine tt_op rfl (op_st (i := 0) (vs := [.int _ _, .int _ _, .slice _ _ _]) H127 rfl rfl rfl rfl rfl kfturn4_2 rfl rfl rfl) rfl rfl ?_
              rintro _ w140 H141
              refine ⟨(H141.pick (m := [_, _, _]) [3, 4, 5] rfl (by decide)), fun w142 e144 => ?_⟩
              have H143 := H141.ext e144
              refine tt_op rfl (Yd.op (y_ext rfl rfl rfl)) rfl rfl ?_
              rintro _ _ ⟨rfl, rfl⟩
              refine ⟨(H143.pick (m := [_, _, _]) [3, 4, 5] rfl (by decide)), fun w145 e147 => ?_⟩
              have H146 := H143.ext e147
              refine tt_op rfl (Yd.op (y_asg rfl rfl)) rfl rfl ?_
              rintro _ _ ⟨rfl, rfl⟩
              refine ⟨(H146.pick (m := [_, _, _]) [3, 4, 5] rfl (by decide)), fun w148 e150 => ?_⟩
              have H149 := H146.ext e150
              exact tt_leaf ⟨b120, rfl, (H149.pick (m := [_, _]) [0, 3] rfl (by decide))⟩ ⟨rfl, rfl, trivial⟩ (by repeat (first | exact kp_refl | refine kp_app rfl rfl ?_ | refine kp_cons rfl ?_))
            refine tt_op rfl (Yd.op (y_ext rfl rfl rfl)) rfl rfl ?_
            rintro _ _ ⟨rfl, rfl⟩
            refine ⟨(H124.pick (m := [_, _, _]) [3, 4, 5] rfl (by decide)), fun w151 e153 => ?_⟩
            have H152 := H124.ext e153
            refine tt_op rfl (Yd.op (y_ext rfl rfl rfl)) rfl rfl ?_
            rintro _ _ ⟨rfl, rfl⟩
            refine ⟨(H152.pick (m := [_, _, _]) [3, 4, 5] rfl (by decide)), fun w154 e156 => ?_⟩
            have H155 := H152.ext e156
            refine tt_op rfl (op_st (i := 0) (vs := [.int _ _, .int _ _, .slice _ _ _]) H155 rfl rfl rfl rfl rfl kfturn4_2 rfl rfl rfl) rfl rfl ?_
            rintro _ w157 H158
            refine ⟨(H158.pick (m := [_, _, _]) [3, 4, 5] rfl (by decide)), fun w159 e161 => ?_⟩
            have H160 := H158.ext e161
            refine tt_op rfl (Yd.op (y_asg rfl rfl)) rfl rfl ?_
            rintro _ _ ⟨rfl, rfl⟩
            refine ⟨(H160.pick (m := [_, _, _]) [3, 4, 5] rfl (by decide)), fun w162 e164 => ?_⟩
            have H163 := H160.ext e164
            exact tt_leaf ⟨b120, rfl, (H163.pick (m := [_, _]) [0, 3] rfl (by decide))⟩ ⟨rfl, rfl, trivial⟩ (by repeat (first | exact kp_refl | refine kp_app rfl rfl ?_ | refine kp_cons rfl ?_))
          refine tt_op rfl (op_alloc H30 rfl kfturn4_1) rfl rfl ?_
          rintro _ w166 ⟨b165, rfl, H167⟩
          refine ⟨(H167.pick (m := [_, _, _]) [3, 4, 5] rfl (by decide)), fun w168 e170 => ?_⟩
          have H169 := H167.ext e170
          refine tt_op rfl (Yd.op (y_mov rfl rfl)) rfl rfl ?_
          rintro _ _ ⟨rfl, rfl⟩
          refine ⟨(H169.pick (m := [_, _, _]) [3, 4, 5] rfl (by decide)), fun w171 e173 => ?_⟩
          have H172 := H169.ext e173
          refine tt_alt ?_ ?_
          · skip
            refine tt_op rfl (Yd.op (y_ext rfl rfl rfl)) rfl rfl ?_
            rintro _ _ ⟨rfl, rfl⟩
            refine ⟨(H172.pick (m := [_, _, _]) [3, 4, 5] rfl (by decide)), fun w174 e176 => ?_⟩
            have H175 := H172.ext e176
            refine tt_alt ?_ ?_
            · skip
              refine tt_op rfl (Yd.op (y_ext rfl rfl rfl)) rfl rfl ?_
              rintro _ _ ⟨rfl, rfl⟩
              refine ⟨(H175.pick (m := [_, _, _]) [3, 4, 5] rfl (by decide)), fun w177 e179 => ?_⟩
              have H178 := H175.ext e179
              refine tt_op rfl (op_st (i := 0) (vs := [.int _ _, .int _ _, .slice _ _ _]) H178 rfl rfl rfl rfl rfl kfturn4_2 rfl rfl rfl) rfl rfl ?_
              rintro _ w180 H181
              refine ⟨(H181.pick (m := [_, _, _]) [3, 4, 5] rfl (by decide)), fun w182 e184 => ?_⟩
              have H183 := H181.ext e184
              refine tt_op rfl (Yd.op (y_asg rfl rfl)) rfl rfl ?_
              rintro _ _ ⟨rfl, rfl⟩
              refine ⟨(H183.pick (m := [_, _, _]) [3, 4, 5] rfl (by decide)), fun w185 e187 => ?_⟩
              have H186 := H183.ext e187
              exact tt_leaf ⟨b165, rfl, (H186.pick (m := [_, _]) [0, 3] rfl (by decide))⟩ ⟨rfl, rfl, trivial⟩ (by repeat (first | exact kp_refl | refine kp_app rfl rfl ?_ | refine kp_cons rfl ?_))
            refine tt_op rfl (op_st (i := 0) (vs := [.int _ _, .int _ _, .slice _ _ _]) H175 rfl rfl rfl rfl rfl kfturn4_2 rfl rfl rfl) rfl rfl ?_
            rintro _ w188 H189
            refine ⟨(H189.pick (m := [_, _, _]) [3, 4, 5] rfl (by decide)), fun w190 e192 => ?_⟩
            have H191 := H189.ext e192
            refine tt_op rfl (Yd.op (y_ext rfl rfl rfl)) rfl rfl ?_
            rintro _ _ ⟨rfl, rfl⟩
            refine ⟨(H191.pick (m := [_, _, _]) [3, 4, 5] rfl (by decide)), fun w193 e195 => ?_⟩
            have H194 := H191.ext e195
            refine tt_op rfl (Yd.op (y_asg rfl rfl)) rfl rfl ?_
            rintro _ _ ⟨rfl, rfl⟩
            refine ⟨(H194.pick (m := [_, _, _]) [3, 4, 5] rfl (by decide)), fun w196 e198 => ?_⟩
            have H197 := H194.ext e198
            exact tt_leaf ⟨b165, rfl, (H197.pick (m := [_, _]) [0, 3] rfl (by decide))⟩ ⟨rfl, rfl, trivial⟩ (by repeat (first | exact kp_refl | refine kp_app rfl rfl ?_ | refine kp_cons rfl ?_))
          refine tt_op rfl (Yd.op (y_ext rfl rfl rfl)) rfl rfl ?_
          rintro _ _ ⟨rfl, rfl⟩
          refine ⟨(H172.pick (m := [_, _, _]) [3, 4, 5] rfl (by decide)), fun w199 e201 => ?_⟩
          have H200 := H172.ext e201
          refine tt_op rfl (Yd.op (y_ext rfl rfl rfl)) rfl rfl ?_
          rintro _ _ ⟨rfl, rfl⟩
          refine ⟨(H200.pick (m := [_, _, _]) [3, 4, 5] rfl (by decide)), fun w202 e204 => ?_⟩
          have H203 := H200.ext e204
          refine tt_op rfl (op_st (i := 0) (vs := [.int _ _, .int _ _, .slice _ _ _]) H203 rfl rfl rfl rfl rfl kfturn4_2 rfl rfl rfl) rfl rfl ?_
          rintro _ w205 H206
          refine ⟨(H206.pick (m := [_, _, _]) [3, 4, 5] rfl (by decide)), fun w207 e209 => ?_⟩
          have H208 := H206.ext e209
          refine tt_op rfl (Yd.op (y_asg rfl rfl)) rfl rfl ?_
          rintro _ _ ⟨rfl, rfl⟩
          refine ⟨(H208.pick (m := [_, _, _]) [3, 4, 5] rfl (by decide)), fun w210 e212 => ?_⟩
          have H211 := H208.ext e212
          exact tt_leaf ⟨b165, rfl, (H211.pick (m := [_, _]) [0, 3] rfl (by decide))⟩ ⟨rfl, rfl, trivial⟩ (by repeat (first | exact kp_refl | refine kp_app rfl rfl ?_ | refine kp_cons rfl ?_))
        refine tt_op rfl (op_alloc H24 rfl kfturn4_1) rfl rfl ?_
        rintro _ w214 ⟨b213, rfl, H215⟩
        refine ⟨(H215.pick (m := [_, _, _]) [3, 4, 5] rfl (by decide)), fun w216 e218 => ?_⟩
        have H217 := H215.ext e218
        refine tt_op rfl (op_call (mBelow_s h a A13 c14 (swV V a h) h2 a2 A21 c22 (swV V2 a2 h2) _ ⟨s3, s4, s1, s2⟩ (H217.rd (i := 2) rfl) swV_len ⟨t3, t4, t1, t2⟩ (H217.rd (i := 1) rfl) swV_len hn hs) rfl kfturn4_20 ⟨rfl, rfl, trivial⟩) rfl rfl ?_
        rintro _ w220 ⟨rfl, e219⟩
        have H221 := H217.ext e219
        refine ⟨(H221.pick (m := [_, _, _]) [3, 4, 5] rfl (by decide)), fun w222 e224 => ?_⟩
        have H223 := H221.ext e224
        refine tt_op rfl (Yd.op (y_mov rfl rfl)) rfl rfl ?_
        rintro _ _ ⟨rfl, rfl⟩
        refine ⟨(H223.pick (m := [_, _, _]) [3, 4, 5] rfl (by decide)), fun w225 e227 => ?_⟩
        have H226 := H223.ext e227
        refine tt_alt ?_ ?_
        · skip
          refine tt_op rfl (Yd.op (y_ext rfl rfl rfl)) rfl rfl ?_
          rintro _ _ ⟨rfl, rfl⟩
          refine ⟨(H226.pick (m := [_, _, _]) [3, 4, 5] rfl (by decide)), fun w228 e230 => ?_⟩
          have H229 := H226.ext e230
          refine tt_alt ?_ ?_
          · skip
            refine tt_op rfl (Yd.op (y_ext rfl rfl rfl)) rfl rfl ?_
            rintro _ _ ⟨rfl, rfl⟩
            refine ⟨(H229.pick (m := [_, _, _]) [3, 4, 5] rfl (by decide)), fun w231 e233 => ?_⟩
            have H232 := H229.ext e233
            refine tt_op rfl (op_st (i := 0) (vs := [.int _ _, .int _ _, .slice _ _ _]) H232 rfl rfl rfl rfl rfl kfturn4_2 rfl rfl rfl) rfl rfl ?_
            rintro _ w234 H235
            refine ⟨(H235.pick (m := [_, _, _]) [3, 4, 5] rfl (by decide)), fun w236 e238 => ?_⟩
            have H237 := H235.ext e238
            refine tt_op rfl (Yd.op (y_asg rfl rfl)) rfl rfl ?_
            rintro _ _ ⟨rfl, rfl⟩
            refine ⟨(H237.pick (m := [_, _, _]) [3, 4, 5] rfl (by decide)), fun w239 e241 => ?_⟩
            have H240 := H237.ext e241
            exact tt_leaf ⟨b213, rfl, (H240.pick (m := [_, _]) [0, 3] rfl (by decide))⟩ ⟨rfl, rfl, trivial⟩ (by repeat (first | exact kp_refl | refine kp_app rfl rfl ?_ | refine kp_cons rfl ?_))
          refine tt_op rfl (op_st (i := 0) (vs := [.int _ _, .int _ _, .slice _ _ _]) H229 rfl rfl rfl rfl rfl kfturn4_2 rfl rfl rfl) rfl rfl ?_
          rintro _ w242 H243
          refine ⟨(H243.pick (m := [_, _, _]) [3, 4, 5] rfl (by decide)), fun w244 e246 => ?_⟩
          have H245 := H243.ext e246
          refine tt_op rfl (Yd.op (y_ext rfl rfl rfl)) rfl rfl ?_
          rintro _ _ ⟨rfl, rfl⟩
          refine ⟨(H245.pick (m := [_, _, _]) [3, 4, 5] rfl (by decide)), fun w247 e249 => ?_⟩
          have H248 := H245.ext e249
          refine tt_op rfl (Yd.op (y_asg rfl rfl)) rfl rfl ?_
          rintro _ _ ⟨rfl, rfl⟩
          refine ⟨(H248.pick (m := [_, _, _]) [3, 4, 5] rfl (by decide)), fun w250 e252 => ?_⟩
          have H251 := H248.ext e252
          exact tt_leaf ⟨b213, rfl, (H251.pick (m := [_, _]) [0, 3] rfl (by decide))⟩ ⟨rfl, rfl, trivial⟩ (by repeat (first | exact kp_refl | refine kp_app rfl rfl ?_ | refine kp_cons rfl ?_))
        refine tt_op rfl (Yd.op (y_ext rfl rfl rfl)) rfl rfl ?_
        rintro _ _ ⟨rfl, rfl⟩
        refine ⟨(H226.pick (m := [_, _, _]) [3, 4, 5] rfl (by decide)), fun w253 e255 => ?_⟩
        have H254 := H226.ext e255
        refine tt_op rfl (Yd.op (y_ext rfl rfl rfl)) rfl rfl ?_
        rintro _ _ ⟨rfl, rfl⟩
        refine ⟨(H254.pick (m := [_, _, _]) [3, 4, 5] rfl (by decide)), fun w256 e258 => ?_⟩
        have H257 := H254.ext e258
        refine tt_op rfl (op_st (i := 0) (vs := [.int _ _, .int _ _, .slice _ _ _]) H257 rfl rfl rfl rfl rfl kfturn4_2 rfl rfl rfl) rfl rfl ?_
        rintro _ w259 H260
        refine ⟨(H260.pick (m := [_, _, _]) [3, 4, 5] rfl (by decide)), fun w261 e263 => ?_⟩
        have H262 := H260.ext e263
        refine tt_op rfl (Yd.op (y_asg rfl rfl)) rfl rfl ?_
        rintro _ _ ⟨rfl, rfl⟩
        refine ⟨(H262.pick (m := [_, _, _]) [3, 4, 5] rfl (by decide)), fun w264 e266 => ?_⟩
        have H265 := H262.ext e266
        exact tt_leaf ⟨b213, rfl, (H265.pick (m := [_, _]) [0, 3] rfl (by decide))⟩ ⟨rfl, rfl, trivial⟩ (by repeat (first | exact kp_refl | refine kp_app rfl rfl ?_ | refine kp_cons rfl ?_))
      refine tt_op rfl (op_alloc H16 rfl kfturn4_1) rfl rfl ?_
      rintro _ w268 ⟨b267, rfl, H269⟩
      refine ⟨(H269.pick (m := [_, _, _]) [2, 3, 4] rfl (by decide)), fun w270 e272 => ?_⟩
      have H271 := H269.ext e272
      refine tt_op rfl (op_call (mSwap a2 h2 B cap2 V2 _ s' (hr2.below H271.base) hl2) rfl kfturn4_19 ⟨rfl, trivial⟩) rfl rfl ?_
      rintro _ w274 ⟨A276, c277, rfl, k273⟩
      have H275 := H271.call k273
      refine ⟨(H275.pick (m := [_, _, _]) [3, 4, 5] rfl (by decide)), fun w278 e280 => ?_⟩
      have H279 := H275.ext e280
      refine tt_op rfl (op_call (mBelow_s h a A13 c14 (swV V a h) h2 a2 A276 c277 (swV V2 a2 h2) _ ⟨s3, s4, s1, s2⟩ (H279.rd (i := 2) rfl) swV_len ⟨t3, t4, t1, t2⟩ (H279.rd (i := 0) rfl) swV_len hn hs) rfl kfturn4_20 ⟨rfl, rfl, trivial⟩) rfl rfl ?_
      rintro _ w282 ⟨rfl, e281⟩
      have H283 := H279.ext e281
      refine ⟨(H283.pick (m := [_, _, _]) [3, 4, 5] rfl (by decide)), fun w284 e286 => ?_⟩
      have H285 := H283.ext e286
      refine tt_op rfl (Yd.op (y_mov rfl rfl)) rfl rfl ?_
      rintro _ _ ⟨rfl, rfl⟩
      refine ⟨(H285.pick (m := [_, _, _]) [3, 4, 5] rfl (by decide)), fun w287 e289 => ?_⟩
      have H288 := H285.ext e289
      refine tt_alt ?_ ?_
      · skip
        refine tt_op rfl (Yd.op (y_ext rfl rfl rfl)) rfl rfl ?_
        rintro _ _ ⟨rfl, rfl⟩
        refine ⟨(H288.pick (m := [_, _, _]) [3, 4, 5] rfl (by decide)), fun w290 e292 => ?_⟩
        have H291 := H288.ext e292
        refine tt_alt ?_ ?_
        · skip
          refine tt_op rfl (Yd.op (y_ext rfl rfl rfl)) rfl rfl ?_
          rintro _ _ ⟨rfl, rfl⟩
          refine ⟨(H291.pick (m := [_, _, _]) [3, 4, 5] rfl (by decide)), fun w293 e295 => ?_⟩
          have H294 := H291.ext e295
          refine tt_op rfl (op_st (i := 1) (vs := [.int _ _, .int _ _, .slice _ _ _]) H294 rfl rfl rfl rfl rfl kfturn4_2 rfl rfl rfl) rfl rfl ?_
          rintro _ w296 H297
          refine ⟨(H297.pick (m := [_, _, _]) [3, 4, 5] rfl (by decide)), fun w298 e300 => ?_⟩
          have H299 := H297.ext e300
          refine tt_op rfl (Yd.op (y_asg rfl rfl)) rfl rfl ?_
          rintro _ _ ⟨rfl, rfl⟩
          refine ⟨(H299.pick (m := [_, _, _]) [3, 4, 5] rfl (by decide)), fun w301 e303 => ?_⟩
          have H302 := H299.ext e303
          exact tt_leaf ⟨b267, rfl, (H302.pick (m := [_, _]) [1, 3] rfl (by decide))⟩ ⟨rfl, rfl, trivial⟩ (by repeat (first | exact kp_refl | refine kp_app rfl rfl ?_ | refine kp_cons rfl ?_))
        refine tt_op rfl (op_st (i := 1) (vs := [.int _ _, .int _ _, .slice _ _ _]) H291 rfl rfl rfl rfl rfl kfturn4_2 rfl rfl rfl) rfl rfl ?_
        rintro _ w304 H305
        refine ⟨(H305.pick (m := [_, _, _]) [3, 4, 5] rfl (by decide)), fun w306 e308 => ?_⟩
        have H307 := H305.ext e308
        refine tt_op rfl (Yd.op (y_ext rfl rfl rfl)) rfl rfl ?_
        rintro _ _ ⟨rfl, rfl⟩
        refine ⟨(H307.pick (m := [_, _, _]) [3, 4, 5] rfl (by decide)), fun w309 e311 => ?_⟩
        have H310 := H307.ext e311
        refine tt_op rfl (Yd.op (y_asg rfl rfl)) rfl rfl ?_
        rintro _ _ ⟨rfl, rfl⟩
        refine ⟨(H310.pick (m := [_, _, _]) [3, 4, 5] rfl (by decide)), fun w312 e314 => ?_⟩
        have H313 := H310.ext e314
        exact tt_leaf ⟨b267, rfl, (H313.pick (m := [_, _]) [1, 3] rfl (by decide))⟩ ⟨rfl, rfl, trivial⟩ (by repeat (first | exact kp_refl | refine kp_app rfl rfl ?_ | refine kp_cons rfl ?_))
      refine tt_op rfl (Yd.op (y_ext rfl rfl rfl)) rfl rfl ?_
      rintro _ _ ⟨rfl, rfl⟩
      refine ⟨(H288.pick (m := [_, _, _]) [3, 4, 5] rfl (by decide)), fun w315 e317 => ?_⟩
      have H316 := H288.ext e317
      refine tt_op rfl (Yd.op (y_ext rfl rfl rfl)) rfl rfl ?_
      rintro _ _ ⟨rfl, rfl⟩
      refine ⟨(H316.pick (m := [_, _, _]) [3, 4, 5] rfl (by decide)), fun w318 e320 => ?_⟩
      have H319 := H316.ext e320
      refine tt_op rfl (op_st (i := 1) (vs := [.int _ _, .int _ _, .slice _ _ _]) H319 rfl rfl rfl rfl rfl kfturn4_2 rfl rfl rfl) rfl rfl ?_
      rintro _ w321 H322
      refine ⟨(H322.pick (m := [_, _, _]) [3, 4, 5] rfl (by decide)), fun w323 e325 => ?_⟩
      have H324 := H322.ext e325
      refine tt_op rfl (Yd.op (y_asg rfl rfl)) rfl rfl ?_
      rintro _ _ ⟨rfl, rfl⟩
      refine ⟨(H324.pick (m := [_, _, _]) [3, 4, 5] rfl (by decide)), fun w326 e328 => ?_⟩
      have H327 := H324.ext e328
      exact tt_leaf ⟨b267, rfl, (H327.pick (m := [_, _]) [1, 3] rfl (by decide))⟩ ⟨rfl, rfl, trivial⟩ (by repeat (first | exact kp_refl | refine kp_app rfl rfl ?_ | refine kp_cons rfl ?_))
    refine tt_op rfl (op_alloc HX rfl kfturn4_1) rfl rfl ?_
    rintro _ w330 ⟨b329, rfl, H331⟩
    refine ⟨(H331.pick (m := [_, _, _]) [1, 2, 3] rfl (by decide)), fun w332 e334 => ?_⟩
    have H333 := H331.ext e334
    refine tt_op rfl (op_call (mSwap a h A cap V _ s (hr.below H333.base) hl) rfl kfturn4_19 ⟨rfl, trivial⟩) rfl rfl ?_
    rintro _ w336 ⟨A338, c339, rfl, k335⟩
    have H337 := H333.call k335
    refine ⟨(H337.pick (m := [_, _, _]) [2, 3, 4] rfl (by decide)), fun w340 e342 => ?_⟩
    have H341 := H337.ext e342
    refine tt_op rfl (op_call (mSwap a2 h2 B cap2 V2 _ s' (hr2.below H341.base) hl2) rfl kfturn4_19 ⟨rfl, trivial⟩) rfl rfl ?_
    rintro _ w344 ⟨A346, c347, rfl, k343⟩
    have H345 := H341.call k343
    refine ⟨(H345.pick (m := [_, _, _]) [3, 4, 5] rfl (by decide)), fun w348 e350 => ?_⟩
    have H349 := H345.ext e350
    refine tt_op rfl (op_call (mBelow_s h a A338 c339 (swV V a h) h2 a2 A346 c347 (swV V2 a2 h2) _ ⟨s3, s4, s1, s2⟩ (H349.rd (i := 1) rfl) swV_len ⟨t3, t4, t1, t2⟩ (H349.rd (i := 0) rfl) swV_len hn hs) rfl kfturn4_20 ⟨rfl, rfl, trivial⟩) rfl rfl ?_
    rintro _ w352 ⟨rfl, e351⟩
    have H353 := H349.ext e351
    refine ⟨(H353.pick (m := [_, _, _]) [3, 4, 5] rfl (by decide)), fun w354 e356 => ?_⟩
    have H355 := H353.ext e356
    refine tt_op rfl (Yd.op (y_mov rfl rfl)) rfl rfl ?_
    rintro _ _ ⟨rfl, rfl⟩
    refine ⟨(H355.pick (m := [_, _, _]) [3, 4, 5] rfl (by decide)), fun w357 e359 => ?_⟩
    have H358 := H355.ext e359
    refine tt_alt ?_ ?_
    · skip
      refine tt_op rfl (Yd.op (y_ext rfl rfl rfl)) rfl rfl ?_
      rintro _ _ ⟨rfl, rfl⟩
      refine ⟨(H358.pick (m := [_, _, _]) [3, 4, 5] rfl (by decide)), fun w360 e362 => ?_⟩
      have H361 := H358.ext e362
      refine tt_alt ?_ ?_
      · skip
        refine tt_op rfl (Yd.op (y_ext rfl rfl rfl)) rfl rfl ?_
        rintro _ _ ⟨rfl, rfl⟩
        refine ⟨(H361.pick (m := [_, _, _]) [3, 4, 5] rfl (by decide)), fun w363 e365 => ?_⟩
        have H364 := H361.ext e365
        refine tt_op rfl (op_st (i := 2) (vs := [.int _ _, .int _ _, .slice _ _ _]) H364 rfl rfl rfl rfl rfl kfturn4_2 rfl rfl rfl) rfl rfl ?_
        rintro _ w366 H367
        refine ⟨(H367.pick (m := [_, _, _]) [3, 4, 5] rfl (by decide)), fun w368 e370 => ?_⟩
        have H369 := H367.ext e370
        refine tt_op rfl (Yd.op (y_asg rfl rfl)) rfl rfl ?_
        rintro _ _ ⟨rfl, rfl⟩
        refine ⟨(H369.pick (m := [_, _, _]) [3, 4, 5] rfl (by decide)), fun w371 e373 => ?_⟩
        have H372 := H369.ext e373
        exact tt_leaf ⟨b329, rfl, (H372.pick (m := [_, _]) [2, 3] rfl (by decide))⟩ ⟨rfl, rfl, trivial⟩ (by repeat (first | exact kp_refl | refine kp_app rfl rfl ?_ | refine kp_cons rfl ?_))
      refine tt_op rfl (op_st (i := 2) (vs := [.int _ _, .int _ _, .slice _ _ _]) H361 rfl rfl rfl rfl rfl kfturn4_2 rfl rfl rfl) rfl rfl ?_
      rintro _ w374 H375
      refine ⟨(H375.pick (m := [_, _, _]) [3, 4, 5] rfl (by decide)), fun w376 e378 => ?_⟩
      have H377 := H375.ext e378
      refine tt_op rfl (Yd.op (y_ext rfl rfl rfl)) rfl rfl ?_
      rintro _ _ ⟨rfl, rfl⟩
      refine ⟨(H377.pick (m := [_, _, _]) [3, 4, 5] rfl (by decide)), fun w379 e381 => ?_⟩
      have H380 := H377.ext e381
      refine tt_op rfl (Yd.op (y_asg rfl rfl)) rfl rfl ?_
      rintro _ _ ⟨rfl, rfl⟩
      refine ⟨(H380.pick (m := [_, _, _]) [3, 4, 5] rfl (by decide)), fun w382 e384 => ?_⟩
      have H383 := H380.ext e384
      exact tt_leaf ⟨b329, rfl, (H383.pick (m := [_, _]) [2, 3] rfl (by decide))⟩ ⟨rfl, rfl, trivial⟩ (by repeat (first | exact kp_refl | refine kp_app rfl rfl ?_ | refine kp_cons rfl ?_))
    refine tt_op rfl (Yd.op (y_ext rfl rfl rfl)) rfl rfl ?_
    rintro _ _ ⟨rfl, rfl⟩
    refine ⟨(H358.pick (m := [_, _, _]) [3, 4, 5] rfl (by decide)), fun w385 e387 => ?_⟩
    have H386 := H358.ext e387
    refine tt_op rfl (Yd.op (y_ext rfl rfl rfl)) rfl rfl ?_
    rintro _ _ ⟨rfl, rfl⟩
    refine ⟨(H386.pick (m := [_, _, _]) [3, 4, 5] rfl (by decide)), fun w388 e390 => ?_⟩
    have H389 := H386.ext e390
    refine tt_op rfl (op_st (i := 2) (vs := [.int _ _, .int _ _, .slice _ _ _]) H389 rfl rfl rfl rfl rfl kfturn4_2 rfl rfl rfl) rfl rfl ?_
    rintro _ w391 H392
    refine ⟨(H392.pick (m := [_, _, _]) [3, 4, 5] rfl (by decide)), fun w393 e395 => ?_⟩
    have H394 := H392.ext e395
    refine tt_op rfl (Yd.op (y_asg rfl rfl)) rfl rfl ?_
    rintro _ _ ⟨rfl, rfl⟩
    refine ⟨(H394.pick (m := [_, _, _]) [3, 4, 5] rfl (by decide)), fun w396 e398 => ?_⟩
    have H397 := H394.ext e398
    exact tt_leaf ⟨b329, rfl, (H397.pick (m := [_, _]) [2, 3] rfl (by decide))⟩ ⟨rfl, rfl, trivial⟩ (by repeat (first | exact kp_refl | refine kp_app rfl rfl ?_ | refine kp_cons rfl ?_))
  · skip
    rintro M w400 ⟨b', rfl, H399⟩
    refine fn_next ?_
    refine cw_seq ?_
    refine cw_seq ?_
    refine cw_reg ?_
    refine ry (y_mov rfl rfl) rfl rfl ?_
    refine ry (y_neq rfl rfl rfl) rfl rfl ?_
    refine reg_nil ?_
    refine fn_next ?_
    refine cw_condd rfl (fun h401 => ?_) (fun h401 => ?_)
    · skip
      refine cw_seq ?_
      refine cw_reg ?_
      refine ry (y_ldb (i := 0) (cs := [_, _, _]) H399 rfl rfl kfturn4_3 rfl rfl) rfl rfl ?_
      refine ry (y_mov rfl rfl) rfl rfl ?_
      refine reg_op (op_st (i := 1) (vs := [.int _ _, .int _ _, .slice _ _ _]) H399 rfl rfl rfl rfl rfl kfturn4_2 rfl rfl rfl) rfl rfl ?_
      rintro _ w402 H403
      refine ry (y_asg rfl rfl) rfl rfl ?_
      refine reg_nil ?_
      refine fn_next ?_
      refine cw_ret ?_
      refine fn_then_ret ?_
      refine fn_retn (vs := [_, _]) rfl ⟨⟨_, rfl, load_agg (cs := [_, _, _]) kfturn4_3 rfl fun j v hv => by rw [Nat.zero_add]; exact H403.cell (i := 1) rfl hv⟩, rfl, trivial⟩ rfl ?_
      exact ⟨rfl, H403.base⟩
    · exact absurd (by decide) h401

set_option maxRecDepth 100000 in
theorem mBeside_ok (a h : Nat) (A : Option Addr) (cap : Nat) (V : List Int) (a2 : Nat) (B : Option Addr) (cap2 : Nat) (V2 : List Int) (w : World) (s : SzG a h) (hr : Rd w A (vi .i64 V)) (hl : V.length = a * h) (s' : SzG a2 h) (hr2 : Rd w B (vi .i64 V2)) (hl2 : V2.length = a2 * h) (hs : a + a2 ≤ 1024) :
    Ret Try.prog 50 [.agg #[.int .i64 (a : Int), .int .i64 (h : Int), .slice A (a * h) cap], .agg #[.int .i64 (a2 : Int), .int .i64 (h : Int), .slice B (a2 * h) cap2]] w (fun z w' => ∃ A' cap', z = .tuple #[.agg #[.int .i64 ((a + a2 : Nat) : Int), .int .i64 ((h : Nat) : Int), .slice A' ((a + a2) * h) cap'], .int .i64 0] ∧ HS w w' [.row A' ((a + a2) * h) cap' (vi .i64 (swV (swV V a h ++ swV V2 a2 h) h (a + a2))) 2 1]) := by
  obtain ⟨s1, s2, s3, s4⟩ := id s
  have hm := s.mul
  obtain ⟨t1, t2, t3, t4⟩ := id s'
  have hm2 := s'.mul
  refine ret_enter Try.func50 rfl rfl rfl ?_
  have H0 := HS.start w
  refine cw_seq ?_
  refine cw_reg ?_
  refine reg_op (op_box (cs := [.int _ _, .int _ _, .slice _ _ _]) H0 rfl rfl rfl) rfl rfl ?_
  rintro _ w2 ⟨b1, rfl, H3⟩
  refine reg_op (op_box (cs := [.int _ _, .int _ _, .slice _ _ _]) H3 rfl rfl rfl) rfl rfl ?_
  rintro _ w5 ⟨b4, rfl, H6⟩
  refine reg_op (op_alloc H6 rfl kfturn4_1) rfl rfl ?_
  rintro _ w8 ⟨b7, rfl, H9⟩
  refine ry (y_asg rfl rfl) rfl rfl ?_
  refine reg_nil ?_
  refine fn_next ?_
  refine cw_seq ?_
  refine cw_drawT H9 [0, 2] (.alt (.step 1 (.alt (.step 3 (.alt (.step 4 (.alt (.step 5 (.alt (.step 6 (.alt (.step 7 (.step 8 (.step 9 (.step 10 (.leaf))))) (.step 8 (.alt (.step 7 (.step 9 (.step 10 (.leaf)))) (.step 9 (.step 7 (.step 10 (.leaf)))))))) (.alt (.step 7 (.alt (.step 6 (.step 8 (.step 9 (.step 10 (.leaf))))) (.step 8 (.step 6 (.step 9 (.step 10 (.leaf))))))) (.step 8 (.alt (.step 6 (.alt (.step 7 (.step 9 (.step 10 (.leaf)))) (.step 9 (.step 7 (.step 10 (.leaf)))))) (.step 7 (.step 6 (.step 9 (.step 10 (.leaf)))))))))) (.step 8 (.step 5 (.alt (.step 6 (.alt (.step 7 (.step 9 (.step 10 (.leaf)))) (.step 9 (.step 7 (.step 10 (.leaf)))))) (.step 7 (.step 6 (.step 9 (.step 10 (.leaf)))))))))) (.step 8 (.step 4 (.step 5 (.alt (.step 6 (.alt (.step 7 (.step 9 (.step 10 (.leaf)))) (.step 9 (.step 7 (.step 10 (.leaf)))))) (.step 7 (.step 6 (.step 9 (.step 10 (.leaf))))))))))) (.step 8 (.step 3 (.step 4 (.step 5 (.alt (.step 6 (.alt (.step 7 (.step 9 (.step 10 (.leaf)))) (.step 9 (.step 7 (.step 10 (.leaf)))))) (.step 7 (.step 6 (.step 9 (.step 10 (.leaf)))))))))))) (.step 8 (.step 1 (.step 3 (.step 4 (.step 5 (.alt (.step 6 (.alt (.step 7 (.step 9 (.step 10 (.leaf)))) (.step 9 (.step 7 (.step 10 (.leaf)))))) (.step 7 (.step 6 (.step 9 (.step 10 (.leaf)))))))))))) (fun X HX => HX) (by kernel_rfl) (by kernel_rfl) (by rfl) ?_
  simp only [pick, List.getElem?_cons_succ, List.getElem?_cons_zero]
  refine hk_y (fun Y HY => y_ldb (i := 2) (cs := [_, _, _]) HY rfl rfl kfturn4_3 rfl rfl) rfl rfl ?_
  refine hk_y (fun Y HY => y_ldb (i := 1) (cs := [_, _, _]) HY rfl rfl kfturn4_3 rfl rfl) rfl rfl ?_
  refine hkt_nil [6, 7, 8, 10, 12, 13, 14, 15] (fun M wl => ∃ (b' : Nat) (A' : Option Addr) (cap' : Nat), M = [(6, .pointer (some ⟨b', 0, none⟩)), (7, .int .i64 0)] ∧ HS w wl [Ob.blk b' [.int .i64 (h : Int), .int .i64 ((a + a2 : Nat) : Int), .slice A' (h * (a + a2)) cap'] 25, Ob.row A' (h * (a + a2)) cap' (vi .i64 (swV V a h ++ swV V2 a2 h)) 2 1, Ob.blk b7 [.int .i64 0, .int .i64 0, .slice none 0 0] 25]) (fun wX HX => ?_) ?_
  · skip
    refine tt_alt ?_ ?_
    · skip
      refine tt_op rfl (op_call (mSwap a h A cap V _ s (hr.below HX.base) hl) rfl kfturn4_19 ⟨rfl, trivial⟩) rfl rfl ?_
      rintro _ w11 ⟨A13, c14, rfl, k10⟩
      have H12 := HX.call k10
      refine ⟨(H12.pick (m := [_, _, _]) [1, 2, 3] rfl (by decide)), fun w15 e17 => ?_⟩
      have H16 := H12.ext e17
      refine tt_alt ?_ ?_
      · skip
        refine tt_op rfl (op_call (mSwap a2 h B cap2 V2 _ s' (hr2.below H16.base) hl2) rfl kfturn4_19 ⟨rfl, trivial⟩) rfl rfl ?_
        rintro _ w19 ⟨A21, c22, rfl, k18⟩
        have H20 := H16.call k18
        refine ⟨(H20.pick (m := [_, _, _]) [2, 3, 4] rfl (by decide)), fun w23 e25 => ?_⟩
        have H24 := H20.ext e25
        refine tt_alt ?_ ?_
        · skip
          refine tt_op rfl (op_call (mBelow_ok h a A13 c14 (swV V a h) a2 A21 c22 (swV V2 a2 h) _ ⟨s3, s4, s1, s2⟩ (H24.rd (i := 1) rfl) swV_len ⟨t3, t4, t1, t2⟩ (H24.rd (i := 0) rfl) swV_len (by omega)) rfl kfturn4_20 ⟨rfl, rfl, trivial⟩) rfl rfl ?_
          rintro _ w27 ⟨A29, c30, rfl, k26⟩
          have H28 := H24.call k26
          refine ⟨(H28.pick (m := [_, _, _]) [3, 4, 5] rfl (by decide)), fun w31 e33 => ?_⟩
          have H32 := H28.ext e33
          refine tt_alt ?_ ?_
          · skip
            refine tt_op rfl (Yd.op (y_mov rfl rfl)) rfl rfl ?_
            rintro _ _ ⟨rfl, rfl⟩
            refine ⟨(H32.pick (m := [_, _, _]) [3, 4, 5] rfl (by decide)), fun w34 e36 => ?_⟩
            have H35 := H32.ext e36
            refine tt_alt ?_ ?_
            · skip
              refine tt_op rfl (Yd.op (y_ext rfl rfl rfl)) rfl rfl ?_
              rintro _ _ ⟨rfl, rfl⟩
              refine ⟨(H35.pick (m := [_, _, _]) [3, 4, 5] rfl (by decide)), fun w37 e39 => ?_⟩
              have H38 := H35.ext e39
              refine tt_alt ?_ ?_
              · skip
                refine tt_op rfl (Yd.op (y_ext rfl rfl rfl)) rfl rfl ?_
                rintro _ _ ⟨rfl, rfl⟩
                refine ⟨(H38.pick (m := [_, _, _]) [3, 4, 5] rfl (by decide)), fun w40 e42 => ?_⟩
                have H41 := H38.ext e42
                refine tt_op rfl (op_alloc H41 rfl kfturn4_1) rfl rfl ?_
                rintro _ w44 ⟨b43, rfl, H45⟩
                refine ⟨(H45.pick (m := [_, _, _]) [4, 5, 6] rfl (by decide)), fun w46 e48 => ?_⟩
                have H47 := H45.ext e48
                refine tt_op rfl (op_st (i := 0) (vs := [.int _ _, .int _ _, .slice _ _ _]) H47 rfl rfl rfl rfl rfl kfturn4_2 rfl rfl rfl) rfl rfl ?_
                rintro _ w49 H50
                refine ⟨(H50.pick (m := [_, _, _]) [4, 5, 6] rfl (by decide)), fun w51 e53 => ?_⟩
                have H52 := H50.ext e53
                refine tt_op rfl (Yd.op (y_asg rfl rfl)) rfl rfl ?_
                rintro _ _ ⟨rfl, rfl⟩
                refine ⟨(H52.pick (m := [_, _, _]) [4, 5, 6] rfl (by decide)), fun w54 e56 => ?_⟩
                have H55 := H52.ext e56
                exact tt_leaf ⟨b43, A29, c30, rfl, (H55.pick (m := [_, _, _]) [0, 1, 4] rfl (by decide))⟩ ⟨rfl, rfl, trivial⟩ (by repeat (first | exact kp_refl | refine kp_app rfl rfl ?_ | refine kp_cons rfl ?_))
              refine tt_op rfl (op_alloc H38 rfl kfturn4_1) rfl rfl ?_
              rintro _ w58 ⟨b57, rfl, H59⟩
              refine ⟨(H59.pick (m := [_, _, _]) [4, 5, 6] rfl (by decide)), fun w60 e62 => ?_⟩
              have H61 := H59.ext e62
              refine tt_alt ?_ ?_
              · skip
                refine tt_op rfl (Yd.op (y_ext rfl rfl rfl)) rfl rfl ?_
                rintro _ _ ⟨rfl, rfl⟩
                refine ⟨(H61.pick (m := [_, _, _]) [4, 5, 6] rfl (by decide)), fun w63 e65 => ?_⟩
                have H64 := H61.ext e65
                refine tt_op rfl (op_st (i := 0) (vs := [.int _ _, .int _ _, .slice _ _ _]) H64 rfl rfl rfl rfl rfl kfturn4_2 rfl rfl rfl) rfl rfl ?_
                rintro _ w66 H67
                refine ⟨(H67.pick (m := [_, _, _]) [4, 5, 6] rfl (by decide)), fun w68 e70 => ?_⟩
                have H69 := H67.ext e70
                refine tt_op rfl (Yd.op (y_asg rfl rfl)) rfl rfl ?_
                rintro _ _ ⟨rfl, rfl⟩
                refine ⟨(H69.pick (m := [_, _, _]) [4, 5, 6] rfl (by decide)), fun w71 e73 => ?_⟩
                have H72 := H69.ext e73
                exact tt_leaf ⟨b57, A29, c30, rfl, (H72.pick (m := [_, _, _]) [0, 1, 4] rfl (by decide))⟩ ⟨rfl, rfl, trivial⟩ (by repeat (first | exact kp_refl | refine kp_app rfl rfl ?_ | refine kp_cons rfl ?_))
              refine tt_op rfl (op_st (i := 0) (vs := [.int _ _, .int _ _, .slice _ _ _]) H61 rfl rfl rfl rfl rfl kfturn4_2 rfl rfl rfl) rfl rfl ?_
              rintro _ w74 H75
              refine ⟨(H75.pick (m := [_, _, _]) [4, 5, 6] rfl (by decide)), fun w76 e78 => ?_⟩
              have H77 := H75.ext e78
              refine tt_op rfl (Yd.op (y_ext rfl rfl rfl)) rfl rfl ?_
              rintro _ _ ⟨rfl, rfl⟩
              refine ⟨(H77.pick (m := [_, _, _]) [4, 5, 6] rfl (by decide)), fun w79 e81 => ?_⟩
              have H80 := H77.ext e81
              refine tt_op rfl (Yd.op (y_asg rfl rfl)) rfl rfl ?_
              rintro _ _ ⟨rfl, rfl⟩
              refine ⟨(H80.pick (m := [_, _, _]) [4, 5, 6] rfl (by decide)), fun w82 e84 => ?_⟩
              have H83 := H80.ext e84
              exact tt_leaf ⟨b57, A29, c30, rfl, (H83.pick (m := [_, _, _]) [0, 1, 4] rfl (by decide))⟩ ⟨rfl, rfl, trivial⟩ (by repeat (first | exact kp_refl | refine kp_app rfl rfl ?_ | refine kp_cons rfl ?_))
            refine tt_alt ?_ ?_
            · skip
              refine tt_op rfl (Yd.op (y_ext rfl rfl rfl)) rfl rfl ?_
              rintro _ _ ⟨rfl, rfl⟩
              refine ⟨(H35.pick (m := [_, _, _]) [3, 4, 5] rfl (by decide)), fun w85 e87 => ?_⟩
              have H86 := H35.ext e87
              refine tt_alt ?_ ?_
              · skip
                refine tt_op rfl (Yd.op (y_ext rfl rfl rfl)) rfl rfl ?_
                rintro _ _ ⟨rfl, rfl⟩
                refine ⟨(H86.pick (m := [_, _, _]) [3, 4, 5] rfl (by decide)), fun w88 e90 => ?_⟩
                have H89 := H86.ext e90
                refine tt_op rfl (op_alloc H89 rfl kfturn4_1) rfl rfl ?_
                rintro _ w92 ⟨b91, rfl, H93⟩
                refine ⟨(H93.pick (m := [_, _, _]) [4, 5, 6] rfl (by decide)), fun w94 e96 => ?_⟩
                have H95 := H93.ext e96
                refine tt_op rfl (op_st (i := 0) (vs := [.int _ _, .int _ _, .slice _ _ _]) H95 rfl rfl rfl rfl rfl kfturn4_2 rfl rfl rfl) rfl rfl ?_
                rintro _ w97 H98
                refine ⟨(H98.pick (m := [_, _, _]) [4, 5, 6] rfl (by decide)), fun w99 e101 => ?_⟩
                have H100 := H98.ext e101
                refine tt_op rfl (Yd.op (y_asg rfl rfl)) rfl rfl ?_
                rintro _ _ ⟨rfl, rfl⟩
                refine ⟨(H100.pick (m := [_, _, _]) [4, 5, 6] rfl (by decide)), fun w102 e104 => ?_⟩
                have H103 := H100.ext e104
                exact tt_leaf ⟨b91, A29, c30, rfl, (H103.pick (m := [_, _, _]) [0, 1, 4] rfl (by decide))⟩ ⟨rfl, rfl, trivial⟩ (by repeat (first | exact kp_refl | refine kp_app rfl rfl ?_ | refine kp_cons rfl ?_))
              refine tt_op rfl (op_alloc H86 rfl kfturn4_1) rfl rfl ?_
              rintro _ w106 ⟨b105, rfl, H107⟩
              refine ⟨(H107.pick (m := [_, _, _]) [4, 5, 6] rfl (by decide)), fun w108 e110 => ?_⟩
              have H109 := H107.ext e110
              refine tt_op rfl (Yd.op (y_ext rfl rfl rfl)) rfl rfl ?_
              rintro _ _ ⟨rfl, rfl⟩
              refine ⟨(H109.pick (m := [_, _, _]) [4, 5, 6] rfl (by decide)), fun w111 e113 => ?_⟩
              have H112 := H109.ext e113
              refine tt_op rfl (op_st (i := 0) (vs := [.int _ _, .int _ _, .slice _ _ _]) H112 rfl rfl rfl rfl rfl kfturn4_2 rfl rfl rfl) rfl rfl ?_
              rintro _ w114 H115
              refine ⟨(H115.pick (m := [_, _, _]) [4, 5, 6] rfl (by decide)), fun w116 e118 => ?_⟩
              have H117 := H115.ext e118
              refine tt_op rfl (Yd.op (y_asg rfl rfl)) rfl rfl ?_
              rintro _ _ ⟨rfl, rfl⟩
              refine ⟨(H117.pick (m := [_, _, _]) [4, 5, 6] rfl (by decide)), fun w119 e121 => ?_⟩
              have H120 := H117.ext e121
              exact tt_leaf ⟨b105, A29, c30, rfl, (H120.pick (m := [_, _, _]) [0, 1, 4] rfl (by decide))⟩ ⟨rfl, rfl, trivial⟩ (by repeat (first | exact kp_refl | refine kp_app rfl rfl ?_ | refine kp_cons rfl ?_))
            refine tt_op rfl (op_alloc H35 rfl kfturn4_1) rfl rfl ?_
            rintro _ w123 ⟨b122, rfl, H124⟩
            refine ⟨(H124.pick (m := [_, _, _]) [4, 5, 6] rfl (by decide)), fun w125 e127 => ?_⟩
            have H126 := H124.ext e127
            refine tt_alt ?_ ?_
            · skip
              refine tt_op rfl (Yd.op (y_ext rfl rfl rfl)) rfl rfl ?_
              rintro _ _ ⟨rfl, rfl⟩
              refine ⟨(H126.pick (m := [_, _, _]) [4, 5, 6] rfl (by decide)), fun w128 e130 => ?_⟩
              have H129 := H126.ext e130
              refine tt_alt ?_ ?_
              · skip
                refine tt_op rfl (Yd.op (y_ext rfl rfl rfl)) rfl rfl ?_
                rintro _ _ ⟨rfl, rfl⟩
                refine ⟨(H129.pick (m := [_, _, _]) [4, 5, 6] rfl (by decide)), fun w131 e133 => ?_⟩
                have H132 := H129.ext e133
                refine tt_op rfl (op_st (i := 0) (vs := [.int _ _, .int _ _, .slice _ _ _]) H132 rfl rfl rfl rfl rfl kfturn4_2 rfl rfl rfl) rfl rfl ?_
                rintro _ w134 H135
                refine ⟨(H135.pick (m := [_, _, _]) [4, 5, 6] rfl (by decide)), fun w136 e138 => ?_⟩
                have H137 := H135.ext e138
                refine tt_op rfl (Yd.op (y_asg rfl rfl)) rfl rfl ?_
                rintro _ _ ⟨rfl, rfl⟩
                refine ⟨(H137.pick (m := [_, _, _]) [4, 5, 6] rfl (by decide)), fun w139 e141 => ?_⟩
                have H140 := H137.ext e141
                exact tt_leaf ⟨b122, A29, c30, rfl, (H140.pick (m := [_, _, _]) [0, 1, 4] rfl (by decide))⟩ ⟨rfl, rfl, trivial⟩ (by repeat (first | exact kp_refl | refine kp_app rfl rfl ?_ | refine kp_cons rfl ?_))
              refine tt_op rfl (op_st (i := 0) (vs := [.int _ _, .int _ _, .slice _ _ _]) H129 rfl rfl rfl rfl rfl kfturn4_2 rfl rfl rfl) rfl rfl ?_
              rintro _ w142 H143
              refine ⟨(H143.pick (m := [_, _, _]) [4, 5, 6] rfl (by decide)), fun w144 e146 => ?_⟩
              have H145 := H143.ext e146
              refine tt_op rfl (Yd.op (y_ext rfl rfl rfl)) rfl rfl ?_
              rintro _ _ ⟨rfl, rfl⟩
              refine ⟨(H145.pick (m := [_, _, _]) [4, 5, 6] rfl (by decide)), fun w147 e149 => ?_⟩
              have H148 := H145.ext e149
              refine tt_op rfl (Yd.op (y_asg rfl rfl)) rfl rfl ?_
              rintro _ _ ⟨rfl, rfl⟩
              refine ⟨(H148.pick (m := [_, _, _]) [4, 5, 6] rfl (by decide)), fun w150 e152 => ?_⟩
              have H151 := H148.ext e152
              exact tt_leaf ⟨b122, A29, c30, rfl, (H151.pick (m := [_, _, _]) [0, 1, 4] rfl (by decide))⟩ ⟨rfl, rfl, trivial⟩ (by repeat (first | exact kp_refl | refine kp_app rfl rfl ?_ | refine kp_cons rfl ?_))
            refine tt_op rfl (Yd.op (y_ext rfl rfl rfl)) rfl rfl ?_
            rintro _ _ ⟨rfl, rfl⟩
            refine ⟨(H126.pick (m := [_, _, _]) [4, 5, 6] rfl (by decide)), fun w153 e155 => ?_⟩
            have H154 := H126.ext e155
            refine tt_op rfl (Yd.op (y_ext rfl rfl rfl)) rfl rfl ?_
            rintro _ _ ⟨rfl, rfl⟩
            refine ⟨(H154.pick (m := [_, _, _]) [4, 5, 6] rfl (by decide)), fun w156 e158 => ?_⟩
            have H157 := H154.ext e158
            refine tt_op rfl (op_st (i := 0) (vs := [.int _ _, .int _ _, .slice _ _ _]) H157 rfl rfl rfl rfl rfl kfturn4_2 rfl rfl rfl) rfl rfl ?_
            rintro _ w159 H160
            refine ⟨(H160.pick (m := [_, _, _]) [4, 5, 6] rfl (by decide)), fun w161 e163 => ?_⟩
            have H162 := H160.ext e163
            refine tt_op rfl (Yd.op (y_asg rfl rfl)) rfl rfl ?_
            rintro _ _ ⟨rfl, rfl⟩
            refine ⟨(H162.pick (m := [_, _, _]) [4, 5, 6] rfl (by decide)), fun w164 e166 => ?_⟩
            have H165 := H162.ext e166
            exact tt_leaf ⟨b122, A29, c30, rfl, (H165.pick (m := [_, _, _]) [0, 1, 4] rfl (by decide))⟩ ⟨rfl, rfl, trivial⟩ (by repeat (first | exact kp_refl | refine kp_app rfl rfl ?_ | refine kp_cons rfl ?_))
          refine tt_op rfl (op_alloc H32 rfl kfturn4_1) rfl rfl ?_
          rintro _ w168 ⟨b167, rfl, H169⟩
          refine ⟨(H169.pick (m := [_, _, _]) [4, 5, 6] rfl (by decide)), fun w170 e172 => ?_⟩
          have H171 := H169.ext e172
          refine tt_op rfl (Yd.op (y_mov rfl rfl)) rfl rfl ?_
          rintro _ _ ⟨rfl, rfl⟩
          refine ⟨(H171.pick (m := [_, _, _]) [4, 5, 6] rfl (by decide)), fun w173 e175 => ?_⟩
          have H174 := H171.ext e175
          refine tt_alt ?_ ?_
          · skip
            refine tt_op rfl (Yd.op (y_ext rfl rfl rfl)) rfl rfl ?_
            rintro _ _ ⟨rfl, rfl⟩
            refine ⟨(H174.pick (m := [_, _, _]) [4, 5, 6] rfl (by decide)), fun w176 e178 => ?_⟩
            have H177 := H174.ext e178
            refine tt_alt ?_ ?_
            · skip
              refine tt_op rfl (Yd.op (y_ext rfl rfl rfl)) rfl rfl ?_
              rintro _ _ ⟨rfl, rfl⟩
              refine ⟨(H177.pick (m := [_, _, _]) [4, 5, 6] rfl (by decide)), fun w179 e181 => ?_⟩
              have H180 := H177.ext e181
              refine tt_op rfl (op_st (i := 0) (vs := [.int _ _, .int _ _, .slice _ _ _]) H180 rfl rfl rfl rfl rfl kfturn4_2 rfl rfl rfl) rfl rfl ?_
              rintro _ w182 H183
              refine ⟨(H183.pick (m := [_, _, _]) [4, 5, 6] rfl (by decide)), fun w184 e186 => ?_⟩
              have H185 := H183.ext e186
              refine tt_op rfl (Yd.op (y_asg rfl rfl)) rfl rfl ?_
              rintro _ _ ⟨rfl, rfl⟩
              refine ⟨(H185.pick (m := [_, _, _]) [4, 5, 6] rfl (by decide)), fun w187 e189 => ?_⟩
              have H188 := H185.ext e189
              exact tt_leaf ⟨b167, A29, c30, rfl, (H188.pick (m := [_, _, _]) [0, 1, 4] rfl (by decide))⟩ ⟨rfl, rfl, trivial⟩ (by repeat (first | exact kp_refl | refine kp_app rfl rfl ?_ | refine kp_cons rfl ?_))
            refine tt_op rfl (op_st (i := 0) (vs := [.int _ _, .int _ _, .slice _ _ _]) H177 rfl rfl rfl rfl rfl kfturn4_2 rfl rfl rfl) rfl rfl ?_
            rintro _ w190 H191
            refine ⟨(H191.pick (m := [_, _, _]) [4, 5, 6] rfl (by decide)), fun w192 e194 => ?_⟩
            have H193 := H191.ext e194
            refine tt_op rfl (Yd.op (y_ext rfl rfl rfl)) rfl rfl ?_
            rintro _ _ ⟨rfl, rfl⟩
            refine ⟨(H193.pick (m := [_, _, _]) [4, 5, 6] rfl (by decide)), fun w195 e197 => ?_⟩
            have H196 := H193.ext e197
            refine tt_op rfl (Yd.op (y_asg rfl rfl)) rfl rfl ?_
            rintro _ _ ⟨rfl, rfl⟩
            refine ⟨(H196.pick (m := [_, _, _]) [4, 5, 6] rfl (by decide)), fun w198 e200 => ?_⟩
            have H199 := H196.ext e200
            exact tt_leaf ⟨b167, A29, c30, rfl, (H199.pick (m := [_, _, _]) [0, 1, 4] rfl (by decide))⟩ ⟨rfl, rfl, trivial⟩ (by repeat (first | exact kp_refl | refine kp_app rfl rfl ?_ | refine kp_cons rfl ?_))
          refine tt_op rfl (Yd.op (y_ext rfl rfl rfl)) rfl rfl ?_
          rintro _ _ ⟨rfl, rfl⟩
          refine ⟨(H174.pick (m := [_, _, _]) [4, 5, 6] rfl (by decide)), fun w201 e203 => ?_⟩
          have H202 := H174.ext e203
          refine tt_op rfl (Yd.op (y_ext rfl rfl rfl)) rfl rfl ?_
          rintro _ _ ⟨rfl, rfl⟩
          refine ⟨(H202.pick (m := [_, _, _]) [4, 5, 6] rfl (by decide)), fun w204 e206 => ?_⟩
          have H205 := H202.ext e206
          refine tt_op rfl (op_st (i := 0) (vs := [.int _ _, .int _ _, .slice _ _ _]) H205 rfl rfl rfl rfl rfl kfturn4_2 rfl rfl rfl) rfl rfl ?_
          rintro _ w207 H208
          refine ⟨(H208.pick (m := [_, _, _]) [4, 5, 6] rfl (by decide)), fun w209 e211 => ?_⟩
          have H210 := H208.ext e211
          refine tt_op rfl (Yd.op (y_asg rfl rfl)) rfl rfl ?_
          rintro _ _ ⟨rfl, rfl⟩
          refine ⟨(H210.pick (m := [_, _, _]) [4, 5, 6] rfl (by decide)), fun w212 e214 => ?_⟩
          have H213 := H210.ext e214
          exact tt_leaf ⟨b167, A29, c30, rfl, (H213.pick (m := [_, _, _]) [0, 1, 4] rfl (by decide))⟩ ⟨rfl, rfl, trivial⟩ (by repeat (first | exact kp_refl | refine kp_app rfl rfl ?_ | refine kp_cons rfl ?_))
        refine tt_op rfl (op_alloc H24 rfl kfturn4_1) rfl rfl ?_
        rintro _ w216 ⟨b215, rfl, H217⟩
        refine ⟨(H217.pick (m := [_, _, _]) [3, 4, 5] rfl (by decide)), fun w218 e220 => ?_⟩
        have H219 := H217.ext e220
        refine tt_op rfl (op_call (mBelow_ok h a A13 c14 (swV V a h) a2 A21 c22 (swV V2 a2 h) _ ⟨s3, s4, s1, s2⟩ (H219.rd (i := 2) rfl) swV_len ⟨t3, t4, t1, t2⟩ (H219.rd (i := 1) rfl) swV_len (by omega)) rfl kfturn4_20 ⟨rfl, rfl, trivial⟩) rfl rfl ?_
        rintro _ w222 ⟨A224, c225, rfl, k221⟩
        have H223 := H219.call k221
        refine ⟨(H223.pick (m := [_, _, _]) [4, 5, 6] rfl (by decide)), fun w226 e228 => ?_⟩
        have H227 := H223.ext e228
        refine tt_op rfl (Yd.op (y_mov rfl rfl)) rfl rfl ?_
        rintro _ _ ⟨rfl, rfl⟩
        refine ⟨(H227.pick (m := [_, _, _]) [4, 5, 6] rfl (by decide)), fun w229 e231 => ?_⟩
        have H230 := H227.ext e231
        refine tt_alt ?_ ?_
        · skip
          refine tt_op rfl (Yd.op (y_ext rfl rfl rfl)) rfl rfl ?_
          rintro _ _ ⟨rfl, rfl⟩
          refine ⟨(H230.pick (m := [_, _, _]) [4, 5, 6] rfl (by decide)), fun w232 e234 => ?_⟩
          have H233 := H230.ext e234
          refine tt_alt ?_ ?_
          · skip
            refine tt_op rfl (Yd.op (y_ext rfl rfl rfl)) rfl rfl ?_
            rintro _ _ ⟨rfl, rfl⟩
            refine ⟨(H233.pick (m := [_, _, _]) [4, 5, 6] rfl (by decide)), fun w235 e237 => ?_⟩
            have H236 := H233.ext e237
            refine tt_op rfl (op_st (i := 1) (vs := [.int _ _, .int _ _, .slice _ _ _]) H236 rfl rfl rfl rfl rfl kfturn4_2 rfl rfl rfl) rfl rfl ?_
            rintro _ w238 H239
            refine ⟨(H239.pick (m := [_, _, _]) [4, 5, 6] rfl (by decide)), fun w240 e242 => ?_⟩
            have H241 := H239.ext e242
            refine tt_op rfl (Yd.op (y_asg rfl rfl)) rfl rfl ?_
            rintro _ _ ⟨rfl, rfl⟩
            refine ⟨(H241.pick (m := [_, _, _]) [4, 5, 6] rfl (by decide)), fun w243 e245 => ?_⟩
            have H244 := H241.ext e245
            exact tt_leaf ⟨b215, A224, c225, rfl, (H244.pick (m := [_, _, _]) [1, 0, 4] rfl (by decide))⟩ ⟨rfl, rfl, trivial⟩ (by repeat (first | exact kp_refl | refine kp_app rfl rfl ?_ | refine kp_cons rfl ?_))
          refine tt_op rfl (op_st (i := 1) (vs := [.int _ _, .int _ _, .slice _ _ _]) H233 rfl rfl rfl rfl rfl kfturn4_2 rfl rfl rfl) rfl rfl ?_
          rintro _ w246 H247
          refine ⟨(H247.pick (m := [_, _, _]) [4, 5, 6] rfl (by decide)), fun w248 e250 => ?_⟩
          have H249 := H247.ext e250
          refine tt_op rfl (Yd.op (y_ext rfl rfl rfl)) rfl rfl ?_
          rintro _ _ ⟨rfl, rfl⟩
          refine ⟨(H249.pick (m := [_, _, _]) [4, 5, 6] rfl (by decide)), fun w251 e253 => ?_⟩
          have H252 := H249.ext e253
          refine tt_op rfl (Yd.op (y_asg rfl rfl)) rfl rfl ?_
          rintro _ _ ⟨rfl, rfl⟩
          refine ⟨(H252.pick (m := [_, _, _]) [4, 5, 6] rfl (by decide)), fun w254 e256 => ?_⟩
          have H255 := H252.ext e256
          exact tt_leaf ⟨b215, A224, c225, rfl, (H255.pick (m := [_, _, _]) [1, 0, 4] rfl (by decide))⟩ ⟨rfl, rfl, trivial⟩ (by repeat (first | exact kp_refl | refine kp_app rfl rfl ?_ | refine kp_cons rfl ?_))
        refine tt_op rfl (Yd.op (y_ext rfl rfl rfl)) rfl rfl ?_
        rintro _ _ ⟨rfl, rfl⟩
        refine ⟨(H230.pick (m := [_, _, _]) [4, 5, 6] rfl (by decide)), fun w257 e259 => ?_⟩
        have H258 := H230.ext e259
        refine tt_op rfl (Yd.op (y_ext rfl rfl rfl)) rfl rfl ?_
        rintro _ _ ⟨rfl, rfl⟩
        refine ⟨(H258.pick (m := [_, _, _]) [4, 5, 6] rfl (by decide)), fun w260 e262 => ?_⟩
        have H261 := H258.ext e262
        refine tt_op rfl (op_st (i := 1) (vs := [.int _ _, .int _ _, .slice _ _ _]) H261 rfl rfl rfl rfl rfl kfturn4_2 rfl rfl rfl) rfl rfl ?_
        rintro _ w263 H264
        refine ⟨(H264.pick (m := [_, _, _]) [4, 5, 6] rfl (by decide)), fun w265 e267 => ?_⟩
        have H266 := H264.ext e267
        refine tt_op rfl (Yd.op (y_asg rfl rfl)) rfl rfl ?_
        rintro _ _ ⟨rfl, rfl⟩
        refine ⟨(H266.pick (m := [_, _, _]) [4, 5, 6] rfl (by decide)), fun w268 e270 => ?_⟩
        have H269 := H266.ext e270
        exact tt_leaf ⟨b215, A224, c225, rfl, (H269.pick (m := [_, _, _]) [1, 0, 4] rfl (by decide))⟩ ⟨rfl, rfl, trivial⟩ (by repeat (first | exact kp_refl | refine kp_app rfl rfl ?_ | refine kp_cons rfl ?_))
      refine tt_op rfl (op_alloc H16 rfl kfturn4_1) rfl rfl ?_
      rintro _ w272 ⟨b271, rfl, H273⟩
      refine ⟨(H273.pick (m := [_, _, _]) [2, 3, 4] rfl (by decide)), fun w274 e276 => ?_⟩
      have H275 := H273.ext e276
      refine tt_op rfl (op_call (mSwap a2 h B cap2 V2 _ s' (hr2.below H275.base) hl2) rfl kfturn4_19 ⟨rfl, trivial⟩) rfl rfl ?_
      rintro _ w278 ⟨A280, c281, rfl, k277⟩
      have H279 := H275.call k277
      refine ⟨(H279.pick (m := [_, _, _]) [3, 4, 5] rfl (by decide)), fun w282 e284 => ?_⟩
      have H283 := H279.ext e284
      refine tt_op rfl (op_call (mBelow_ok h a A13 c14 (swV V a h) a2 A280 c281 (swV V2 a2 h) _ ⟨s3, s4, s1, s2⟩ (H283.rd (i := 2) rfl) swV_len ⟨t3, t4, t1, t2⟩ (H283.rd (i := 0) rfl) swV_len (by omega)) rfl kfturn4_20 ⟨rfl, rfl, trivial⟩) rfl rfl ?_
      rintro _ w286 ⟨A288, c289, rfl, k285⟩
      have H287 := H283.call k285
      refine ⟨(H287.pick (m := [_, _, _]) [4, 5, 6] rfl (by decide)), fun w290 e292 => ?_⟩
      have H291 := H287.ext e292
      refine tt_op rfl (Yd.op (y_mov rfl rfl)) rfl rfl ?_
      rintro _ _ ⟨rfl, rfl⟩
      refine ⟨(H291.pick (m := [_, _, _]) [4, 5, 6] rfl (by decide)), fun w293 e295 => ?_⟩
      have H294 := H291.ext e295
      refine tt_alt ?_ ?_
      · skip
        refine tt_op rfl (Yd.op (y_ext rfl rfl rfl)) rfl rfl ?_
        rintro _ _ ⟨rfl, rfl⟩
        refine ⟨(H294.pick (m := [_, _, _]) [4, 5, 6] rfl (by decide)), fun w296 e298 => ?_⟩
        have H297 := H294.ext e298
        refine tt_alt ?_ ?_
        · skip
          refine tt_op rfl (Yd.op (y_ext rfl rfl rfl)) rfl rfl ?_
          rintro _ _ ⟨rfl, rfl⟩
          refine ⟨(H297.pick (m := [_, _, _]) [4, 5, 6] rfl (by decide)), fun w299 e301 => ?_⟩
          have H300 := H297.ext e301
          refine tt_op rfl (op_st (i := 2) (vs := [.int _ _, .int _ _, .slice _ _ _]) H300 rfl rfl rfl rfl rfl kfturn4_2 rfl rfl rfl) rfl rfl ?_
          rintro _ w302 H303
          refine ⟨(H303.pick (m := [_, _, _]) [4, 5, 6] rfl (by decide)), fun w304 e306 => ?_⟩
          have H305 := H303.ext e306
          refine tt_op rfl (Yd.op (y_asg rfl rfl)) rfl rfl ?_
          rintro _ _ ⟨rfl, rfl⟩
          refine ⟨(H305.pick (m := [_, _, _]) [4, 5, 6] rfl (by decide)), fun w307 e309 => ?_⟩
          have H308 := H305.ext e309
          exact tt_leaf ⟨b271, A288, c289, rfl, (H308.pick (m := [_, _, _]) [2, 0, 4] rfl (by decide))⟩ ⟨rfl, rfl, trivial⟩ (by repeat (first | exact kp_refl | refine kp_app rfl rfl ?_ | refine kp_cons rfl ?_))
        refine tt_op rfl (op_st (i := 2) (vs := [.int _ _, .int _ _, .slice _ _ _]) H297 rfl rfl rfl rfl rfl kfturn4_2 rfl rfl rfl) rfl rfl ?_
        rintro _ w310 H311
        refine ⟨(H311.pick (m := [_, _, _]) [4, 5, 6] rfl (by decide)), fun w312 e314 => ?_⟩
        have H313 := H311.ext e314
        refine tt_op rfl (Yd.op (y_ext rfl rfl rfl)) rfl rfl ?_
        rintro _ _ ⟨rfl, rfl⟩
        refine ⟨(H313.pick (m := [_, _, _]) [4, 5, 6] rfl (by decide)), fun w315 e317 => ?_⟩
        have H316 := H313.ext e317
        refine tt_op rfl (Yd.op (y_asg rfl rfl)) rfl rfl ?_
        rintro _ _ ⟨rfl, rfl⟩
        refine ⟨(H316.pick (m := [_, _, _]) [4, 5, 6] rfl (by decide)), fun w318 e320 => ?_⟩
        have H319 := H316.ext e320
        exact tt_leaf ⟨b271, A288, c289, rfl, (H319.pick (m := [_, _, _]) [2, 0, 4] rfl (by decide))⟩ ⟨rfl, rfl, trivial⟩ (by repeat (first | exact kp_refl | refine kp_app rfl rfl ?_ | refine kp_cons rfl ?_))
      refine tt_op rfl (Yd.op (y_ext rfl rfl rfl)) rfl rfl ?_
      rintro _ _ ⟨rfl, rfl⟩
      refine ⟨(H294.pick (m := [_, _, _]) [4, 5, 6] rfl (by decide)), fun w321 e323 => ?_⟩
      have H322 := H294.ext e323
      refine tt_op rfl (Yd.op (y_ext rfl rfl rfl)) rfl rfl ?_
      rintro _ _ ⟨rfl, rfl⟩
      refine ⟨(H322.pick (m := [_, _, _]) [4, 5, 6] rfl (by decide)), fun w324 e326 => ?_⟩
      have H325 := H322.ext e326
      refine tt_op rfl (op_st (i := 2) (vs := [.int _ _, .int _ _, .slice _ _ _]) H325 rfl rfl rfl rfl rfl kfturn4_2 rfl rfl rfl) rfl rfl ?_
      rintro _ w327 H328
      refine ⟨(H328.pick (m := [_, _, _]) [4, 5, 6] rfl (by decide)), fun w329 e331 => ?_⟩
      have H330 := H328.ext e331
      refine tt_op rfl (Yd.op (y_asg rfl rfl)) rfl rfl ?_
      rintro _ _ ⟨rfl, rfl⟩
      refine ⟨(H330.pick (m := [_, _, _]) [4, 5, 6] rfl (by decide)), fun w332 e334 => ?_⟩
      have H333 := H330.ext e334
      exact tt_leaf ⟨b271, A288, c289, rfl, (H333.pick (m := [_, _, _]) [2, 0, 4] rfl (by decide))⟩ ⟨rfl, rfl, trivial⟩ (by repeat (first | exact kp_refl | refine kp_app rfl rfl ?_ | refine kp_cons rfl ?_))
    refine tt_op rfl (op_alloc HX rfl kfturn4_1) rfl rfl ?_
    rintro _ w336 ⟨b335, rfl, H337⟩
    refine ⟨(H337.pick (m := [_, _, _]) [1, 2, 3] rfl (by decide)), fun w338 e340 => ?_⟩
    have H339 := H337.ext e340
    refine tt_op rfl (op_call (mSwap a h A cap V _ s (hr.below H339.base) hl) rfl kfturn4_19 ⟨rfl, trivial⟩) rfl rfl ?_
    rintro _ w342 ⟨A344, c345, rfl, k341⟩
    have H343 := H339.call k341
    refine ⟨(H343.pick (m := [_, _, _]) [2, 3, 4] rfl (by decide)), fun w346 e348 => ?_⟩
    have H347 := H343.ext e348
    refine tt_op rfl (op_call (mSwap a2 h B cap2 V2 _ s' (hr2.below H347.base) hl2) rfl kfturn4_19 ⟨rfl, trivial⟩) rfl rfl ?_
    rintro _ w350 ⟨A352, c353, rfl, k349⟩
    have H351 := H347.call k349
    refine ⟨(H351.pick (m := [_, _, _]) [3, 4, 5] rfl (by decide)), fun w354 e356 => ?_⟩
    have H355 := H351.ext e356
    refine tt_op rfl (op_call (mBelow_ok h a A344 c345 (swV V a h) a2 A352 c353 (swV V2 a2 h) _ ⟨s3, s4, s1, s2⟩ (H355.rd (i := 1) rfl) swV_len ⟨t3, t4, t1, t2⟩ (H355.rd (i := 0) rfl) swV_len (by omega)) rfl kfturn4_20 ⟨rfl, rfl, trivial⟩) rfl rfl ?_
    rintro _ w358 ⟨A360, c361, rfl, k357⟩
    have H359 := H355.call k357
    refine ⟨(H359.pick (m := [_, _, _]) [4, 5, 6] rfl (by decide)), fun w362 e364 => ?_⟩
    have H363 := H359.ext e364
    refine tt_op rfl (Yd.op (y_mov rfl rfl)) rfl rfl ?_
    rintro _ _ ⟨rfl, rfl⟩
    refine ⟨(H363.pick (m := [_, _, _]) [4, 5, 6] rfl (by decide)), fun w365 e367 => ?_⟩
    have H366 := H363.ext e367
    refine tt_alt ?_ ?_
    · skip
      refine tt_op rfl (Yd.op (y_ext rfl rfl rfl)) rfl rfl ?_
      rintro _ _ ⟨rfl, rfl⟩
      refine ⟨(H366.pick (m := [_, _, _]) [4, 5, 6] rfl (by decide)), fun w368 e370 => ?_⟩
      have H369 := H366.ext e370
      refine tt_alt ?_ ?_
      · skip
        refine tt_op rfl (Yd.op (y_ext rfl rfl rfl)) rfl rfl ?_
        rintro _ _ ⟨rfl, rfl⟩
        refine ⟨(H369.pick (m := [_, _, _]) [4, 5, 6] rfl (by decide)), fun w371 e373 => ?_⟩
        have H372 := H369.ext e373
        refine tt_op rfl (op_st (i := 3) (vs := [.int _ _, .int _ _, .slice _ _ _]) H372 rfl rfl rfl rfl rfl kfturn4_2 rfl rfl rfl) rfl rfl ?_
        rintro _ w374 H375
        refine ⟨(H375.pick (m := [_, _, _]) [4, 5, 6] rfl (by decide)), fun w376 e378 => ?_⟩
        have H377 := H375.ext e378
        refine tt_op rfl (Yd.op (y_asg rfl rfl)) rfl rfl ?_
        rintro _ _ ⟨rfl, rfl⟩
        refine ⟨(H377.pick (m := [_, _, _]) [4, 5, 6] rfl (by decide)), fun w379 e381 => ?_⟩
        have H380 := H377.ext e381
        exact tt_leaf ⟨b335, A360, c361, rfl, (H380.pick (m := [_, _, _]) [3, 0, 4] rfl (by decide))⟩ ⟨rfl, rfl, trivial⟩ (by repeat (first | exact kp_refl | refine kp_app rfl rfl ?_ | refine kp_cons rfl ?_))
      refine tt_op rfl (op_st (i := 3) (vs := [.int _ _, .int _ _, .slice _ _ _]) H369 rfl rfl rfl rfl rfl kfturn4_2 rfl rfl rfl) rfl rfl ?_
      rintro _ w382 H383
      refine ⟨(H383.pick (m := [_, _, _]) [4, 5, 6] rfl (by decide)), fun w384 e386 => ?_⟩
      have H385 := H383.ext e386
      refine tt_op rfl (Yd.op (y_ext rfl rfl rfl)) rfl rfl ?_
      rintro _ _ ⟨rfl, rfl⟩
      refine ⟨(H385.pick (m := [_, _, _]) [4, 5, 6] rfl (by decide)), fun w387 e389 => ?_⟩
      have H388 := H385.ext e389
      refine tt_op rfl (Yd.op (y_asg rfl rfl)) rfl rfl ?_
      rintro _ _ ⟨rfl, rfl⟩
      refine ⟨(H388.pick (m := [_, _, _]) [4, 5, 6] rfl (by decide)), fun w390 e392 => ?_⟩
      have H391 := H388.ext e392
      exact tt_leaf ⟨b335, A360, c361, rfl, (H391.pick (m := [_, _, _]) [3, 0, 4] rfl (by decide))⟩ ⟨rfl, rfl, trivial⟩ (by repeat (first | exact kp_refl | refine kp_app rfl rfl ?_ | refine kp_cons rfl ?_))
    refine tt_op rfl (Yd.op (y_ext rfl rfl rfl)) rfl rfl ?_
    rintro _ _ ⟨rfl, rfl⟩
    refine ⟨(H366.pick (m := [_, _, _]) [4, 5, 6] rfl (by decide)), fun w393 e395 => ?_⟩
    have H394 := H366.ext e395
    refine tt_op rfl (Yd.op (y_ext rfl rfl rfl)) rfl rfl ?_
    rintro _ _ ⟨rfl, rfl⟩
    refine ⟨(H394.pick (m := [_, _, _]) [4, 5, 6] rfl (by decide)), fun w396 e398 => ?_⟩
    have H397 := H394.ext e398
    refine tt_op rfl (op_st (i := 3) (vs := [.int _ _, .int _ _, .slice _ _ _]) H397 rfl rfl rfl rfl rfl kfturn4_2 rfl rfl rfl) rfl rfl ?_
    rintro _ w399 H400
    refine ⟨(H400.pick (m := [_, _, _]) [4, 5, 6] rfl (by decide)), fun w401 e403 => ?_⟩
    have H402 := H400.ext e403
    refine tt_op rfl (Yd.op (y_asg rfl rfl)) rfl rfl ?_
    rintro _ _ ⟨rfl, rfl⟩
    refine ⟨(H402.pick (m := [_, _, _]) [4, 5, 6] rfl (by decide)), fun w404 e406 => ?_⟩
    have H405 := H402.ext e406
    exact tt_leaf ⟨b335, A360, c361, rfl, (H405.pick (m := [_, _, _]) [3, 0, 4] rfl (by decide))⟩ ⟨rfl, rfl, trivial⟩ (by repeat (first | exact kp_refl | refine kp_app rfl rfl ?_ | refine kp_cons rfl ?_))
  · skip
    rintro M w408 ⟨b', A', cap', rfl, H407⟩
    refine fn_next ?_
    refine cw_seq ?_
    refine cw_seq ?_
    refine cw_reg ?_
    refine ry (y_mov rfl rfl) rfl rfl ?_
    refine ry (y_neq rfl rfl rfl) rfl rfl ?_
    refine reg_nil ?_
    refine fn_next ?_
    refine cw_condd rfl (fun h409 => ?_) (fun h409 => ?_)
    · exact absurd rfl h409
    · skip
      refine cw_skip ?_
      refine fn_next ?_
      refine cw_seq ?_
      refine cw_reg ?_
      refine ry (y_ldb (i := 0) (cs := [_, _, _]) H407 rfl rfl kfturn4_3 rfl rfl) rfl rfl ?_
      refine reg_op (op_call (mSwap h (a + a2) A' cap' (swV V a h ++ swV V2 a2 h) _ ⟨by omega, by omega, by omega, by omega⟩ (H407.rd (i := 1) rfl) (by rw [List.length_append, swV_len, swV_len, Nat.mul_add])) rfl kfturn4_19 ⟨rfl, trivial⟩) rfl rfl ?_
      rintro _ w411 ⟨A413, c414, rfl, k410⟩
      have H412 := H407.call k410
      refine reg_op (op_st (i := 3) (vs := [.int _ _, .int _ _, .slice _ _ _]) H412 rfl rfl rfl rfl rfl kfturn4_2 rfl rfl rfl) rfl rfl ?_
      rintro _ w415 H416
      refine ry (y_asg rfl rfl) rfl rfl ?_
      refine reg_nil ?_
      refine fn_next ?_
      refine cw_ret ?_
      refine fn_retn (vs := [_, _]) rfl ⟨⟨_, rfl, load_agg (cs := [_, _, _]) kfturn4_3 rfl fun j v hv => by rw [Nat.zero_add]; exact H416.cell (i := 3) rfl hv⟩, rfl, trivial⟩ rfl ?_
      exact ⟨_, _, rfl, (H416.pick (m := [_]) [0] rfl (by decide))⟩

end Go.Proofs.Ytbhmkpnihgjlnaa
