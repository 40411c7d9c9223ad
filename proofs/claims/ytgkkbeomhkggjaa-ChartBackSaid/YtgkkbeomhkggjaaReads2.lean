/- Layer 34: the document's answer, line by line. -/
import Derived.Test.YtgkkbeomhkggjaaReads1
set_option linter.unusedVariables false
set_option linter.unusedSimpArgs false
namespace Go.Proofs.Ytgkkbeomhkggjaa
open Go Go.RowKit
theorem kfreads2_1 : (Try.prog.info? 53).bind (fun i => i.zero.map Value.cells) = some (List.toArray [(.int .i64 0), (.int .i64 0), (.slice none 0 0)]) := by kernel_rfl
theorem kfreads2_2 : szB Try.prog 53 3 = true := by kernel_rfl
theorem kfreads2_3 : callB Try.prog 23 = true := by kernel_rfl
theorem kfreads2_4 : aggB Try.prog 53 3 = true := by kernel_rfl
theorem kfreads2_5 : elB Try.prog 60 1 = true := by kernel_rfl
theorem kfreads2_6 : oneB Try.prog 9 = true := by kernel_rfl
theorem kfreads2_7 : callB Try.prog 59 = true := by kernel_rfl
theorem kfreads2_8 : callB Try.prog 60 = true := by kernel_rfl
theorem kfreads2_9 : fldB Try.prog 53 2 2 = true := by kernel_rfl
theorem kfreads2_10 : oneB Try.prog 28 = true := by kernel_rfl
theorem kfreads2_11 : (Try.prog.info? 2).map (fun i => (i.size, i.zero.map Value.cells)) = some (1, some (List.toArray [(.int .i64 0)])) := by kernel_rfl
theorem kfreads2_12 : (Try.prog.info? 2).map (fun i => (i.zero.map (·.cells.toList), i.size, i.bytes)) = some (some [(.int .i64 0)], 1, 8) := by kernel_rfl
theorem kfreads2_13 : szB Try.prog 28 1 = true := by kernel_rfl
theorem kfreads2_14 : fldB Try.prog 53 0 0 = true := by kernel_rfl
theorem kfreads2_15 : szB Try.prog 2 1 = true := by kernel_rfl
theorem kfreads2_16 : oneB Try.prog 2 = true := by kernel_rfl
theorem rcsJ_none {l : List Bd} (hR : RgtP l) {s dn : List Int} (hB : Byt s) {k : Nat} (h : rowM l s = (rcsR l ((rcs s).drop k)).map (dn ++ ·)) (hk : k < (rcs s).length) (hb : backPF l ((rcs s).getD k []) = none) : rowM l s = none := by
  rw [h, rcsR_drop hk, hb]; rfl
theorem rcsJ_some {l : List Bd} {s dn : List Int} {k : Nat} {f : Int} (h : rowM l s = (rcsR l ((rcs s).drop k)).map (dn ++ ·)) (hk : k < (rcs s).length) (hb : backPF l ((rcs s).getD k []) = some f) : rowM l s = (rcsR l ((rcs s).drop (k + 1))).map ((dn ++ [f]) ++ ·) := by
  rw [h, rcsR_drop hk, hb]
  cases rcsR l ((rcs s).drop (k + 1)) <;> simp
theorem rcsJ_end {l : List Bd} {s dn : List Int} {k : Nat} (h : rowM l s = (rcsR l ((rcs s).drop k)).map (dn ++ ·)) (hk : k = (rcs s).length) : rowM l s = some dn := by
  rw [h, hk, List.drop_length]; simp [rcsR]

set_option maxRecDepth 100000 in
set_option maxHeartbeats 4000000 in
theorem mReadNo (LA : Option Addr) (nl lc : Nat) (ls : List (List Int)) (A : Option Addr) (n c : Nat) (l : List Bd) (e : Int) (z : Nat × List Int) (w : World) (hlr : Rd w LA (strs ls)) (hll : ls.length = nl) (hnl : nl ≤ 1000000) (hBs : Byts ls) (hsz : ∀ s ∈ ls, s.length ≤ 1000000) (hb : Rd w A (bcells l)) (hl : l.length = n) (hn : n ≤ 100000000) (hd : readM l ls = (e, z)) (he : e ≠ 0) :
    Ret Try.prog 31 [.slice LA nl lc, .slice A n c] w (fun v w' => v = .tuple #[.agg #[.int .i64 0, .int .i64 0, .slice none 0 0], .int .i64 e] ∧ Below w.heap.size w w') := by
 refine ret_enter Try.func31 rfl rfl rfl ?_
 have H0 := HS.start w
 refine cw_seq ?_
 refine cw_reg ?_
 refine reg_op (op_alloc H0 rfl kfreads2_1) rfl rfl ?_
 rintro _ w2 ⟨b1, rfl, H3⟩
 refine ry (y_asg rfl rfl) rfl rfl ?_
 refine reg_nil ?_
 refine fn_next ?_
 refine cw_seq ?_
 refine cw_reg ?_
 refine ry (y_build (places := [(0, 1), (1, 1), (2, 1)]) (parts := []) (vs := []) (cs := [.int _ _, .int _ _, .slice _ _ _]) rfl Try.underlying53 (by kernel_rfl) kfreads2_1 rfl trivial rfl) rfl rfl ?_
 refine reg_op (op_alloc H3 rfl kfreads2_1) rfl rfl ?_
 rintro _ w5 ⟨b4, rfl, H6⟩
 refine reg_op (op_st (i := 0) (vs := [.int _ _, .int _ _, .slice _ _ _]) H6 rfl rfl rfl rfl rfl kfreads2_2 rfl rfl rfl) rfl rfl ?_
 rintro _ w7 H8
 refine reg_nil ?_
 refine fn_next ?_
 refine cw_seq ?_
 refine cw_seq ?_
 refine cw_reg ?_
 refine ry (y_mov rfl rfl) rfl rfl ?_
 refine reg_op (op_call (refRight3 A n c l _ (hb.below H8.base) hl hn) rfl kfreads2_3 ⟨rfl, trivial⟩) rfl rfl ?_
 rintro _ w10 ⟨rfl, e9⟩
 have H11 := H8.ext e9
 refine ry (y_not rfl rfl) rfl rfl ?_
 refine reg_nil ?_
 refine fn_next ?_
 refine cw_cond rfl (fun h12 => ?_) (fun h12 => ?_)
 ·skip
  have hr : rgtB l = false := by simpa using h12
  refine cw_seq ?_
  refine cw_reg ?_
  refine ry (y_ldb (i := 0) (cs := [_, _, _]) H11 rfl rfl kfreads2_4 rfl rfl) rfl rfl ?_
  refine reg_op (op_st (i := 1) (vs := [.int _ _, .int _ _, .slice _ _ _]) H11 rfl rfl rfl rfl rfl kfreads2_2 rfl rfl rfl) rfl rfl ?_
  rintro _ w13 H14
  refine ry (y_asg rfl rfl) rfl rfl ?_
  refine reg_nil ?_
  refine fn_next ?_
  refine cw_ret ?_
  refine fn_then_ret ?_
  refine fn_retn (vs := [_, _]) rfl ⟨⟨_, rfl, load_agg (cs := [_, _, _]) kfreads2_4 rfl fun j v hv => by rw [Nat.zero_add]; exact H14.cell (i := 1) rfl hv⟩, rfl, trivial⟩ rfl ?_
  have hM : readM l ls = _ := readM_R hr
  rw [hd] at hM; cases hM
  exact ⟨rfl, H14.base⟩
 ·skip
  have hr : rgtB l = true := by simpa using h12
  have hR := (rgtB_iff l).1 hr
  refine cw_skip ?_
  refine fn_next ?_
  refine cw_seq ?_
  refine cw_seq ?_
  refine cw_reg ?_
  refine ry (y_mov rfl rfl) rfl rfl ?_
  refine ry (y_len rfl Try.underlying60 rfl) rfl rfl ?_
  refine ry (y_lss rfl rfl rfl) rfl rfl ?_
  refine ry (y_mov rfl rfl) rfl rfl ?_
  refine rg_splitd (d := 21) rfl (fun h15 => ?_) (fun h15 => ?_)
  ·skip
   refine rg_off rfl rfl rfl rfl rfl ?_
   refine rg_off rfl rfl rfl rfl rfl ?_
   refine rg_off rfl rfl rfl rfl rfl ?_
   refine ry (y_pick rfl rfl rfl) rfl rfl ?_
   refine reg_nil ?_
   refine fn_next ?_
   refine cw_condt rfl ?_
   refine cw_seq ?_
   refine cw_reg ?_
   refine ry (y_ldb (i := 0) (cs := [_, _, _]) H11 rfl rfl kfreads2_4 rfl rfl) rfl rfl ?_
   refine reg_op (op_st (i := 1) (vs := [.int _ _, .int _ _, .slice _ _ _]) H11 rfl rfl rfl rfl rfl kfreads2_2 rfl rfl rfl) rfl rfl ?_
   rintro _ w16 H17
   refine ry (y_asg rfl rfl) rfl rfl ?_
   refine reg_nil ?_
   refine fn_next ?_
   refine cw_ret ?_
   refine fn_then_ret ?_
   refine fn_retn (vs := [_, _]) rfl ⟨⟨_, rfl, load_agg (cs := [_, _, _]) kfreads2_4 rfl fun j v hv => by rw [Nat.zero_add]; exact H17.cell (i := 1) rfl hv⟩, rfl, trivial⟩ rfl ?_
   have hM : readM l ls = _ := readM_S hr (by omega)
   rw [hd] at hM; cases hM
   exact ⟨rfl, H17.base⟩
  ·skip
   refine rgy (y_mov rfl rfl) rfl rfl rfl rfl ?_
   refine rgy (y_len rfl Try.underlying60 rfl) rfl rfl rfl rfl ?_
   refine rgy (y_gtr rfl rfl rfl) rfl rfl rfl rfl ?_
   refine ry (y_pick rfl rfl rfl) rfl rfl ?_
   refine reg_nil ?_
   refine fn_next ?_
   refine cw_condd rfl (fun h18 => ?_) (fun h18 => ?_)
   ·skip
    refine cw_seq ?_
    refine cw_reg ?_
    refine ry (y_ldb (i := 0) (cs := [_, _, _]) H11 rfl rfl kfreads2_4 rfl rfl) rfl rfl ?_
    refine reg_op (op_st (i := 1) (vs := [.int _ _, .int _ _, .slice _ _ _]) H11 rfl rfl rfl rfl rfl kfreads2_2 rfl rfl rfl) rfl rfl ?_
    rintro _ w19 H20
    refine ry (y_asg rfl rfl) rfl rfl ?_
    refine reg_nil ?_
    refine fn_next ?_
    refine cw_ret ?_
    refine fn_then_ret ?_
    refine fn_retn (vs := [_, _]) rfl ⟨⟨_, rfl, load_agg (cs := [_, _, _]) kfreads2_4 rfl fun j v hv => by rw [Nat.zero_add]; exact H20.cell (i := 1) rfl hv⟩, rfl, trivial⟩ rfl ?_
    have hM : readM l ls = _ := readM_S hr (by omega)
    rw [hd] at hM; cases hM
    exact ⟨rfl, H20.base⟩
   ·skip
    refine cw_skip ?_
    refine fn_next ?_
    refine cw_seq ?_
    refine cw_reg ?_
    refine ry (y_mov rfl rfl) rfl rfl ?_
    refine ry (y_len rfl Try.underlying60 rfl) rfl rfl ?_
    refine ry (y_build (places := [(0, 1), (1, 1), (2, 1)]) (parts := [(1, _)]) (vs := [(1, _)]) (cs := [.int _ _, .int _ _, .slice _ _ _]) rfl Try.underlying53 (by kernel_rfl) kfreads2_1 rfl ⟨rfl, trivial⟩ rfl) rfl rfl ?_
    refine reg_op (op_alloc H11 rfl kfreads2_1) rfl rfl ?_
    rintro _ w22 ⟨b21, rfl, H23⟩
    refine reg_op (op_st (i := 0) (vs := [.int _ _, .int _ _, .slice _ _ _]) H23 rfl rfl rfl rfl rfl kfreads2_2 rfl rfl rfl) rfl rfl ?_
    rintro _ w24 H25
    refine reg_nil ?_
    refine fn_next ?_
    refine cw_seq ?_
    refine cw_seq ?_
    refine cw_reg ?_
    refine ry (y_asg rfl rfl) rfl rfl ?_
    refine reg_nil ?_
    refine fn_next ?_
    refine cw_block ?_
    have H26 := H25.nilrow 2 1
    refine cw_loopJ [5, 8, 9, 10, 11, 12, 30, 31, 32, 33, 34, 35, 36, 37, 38, 39, 40, 41, 42, 43, 44, 45, 46, 47, 48, 49, 50, 51, 52, 53, 54, 55, 56, 57, 58, 59, 60, 61, 62, 63, 64, 65, 66, 67, 68, 69, 70, 71, 72, 73, 74, 75, 76, 77, 78, 79, 80, 81, 82, 83, 84] (fun M wl ml => ∃ (y a c2 : Nat) (acc : List Int) (A1 : Option Addr), M = [(8, .int .i64 (y : Int))] ∧ HS w wl [Ob.row A1 acc.length c2 (vi .i64 acc) 2 1, Ob.blk b21 [.int .i64 (a : Int), .int .i64 (nl : Int), .slice A1 acc.length c2] 53, Ob.blk b4 [.int .i64 0, .int .i64 0, .slice none 0 0] 53, Ob.blk b1 [.int .i64 0, .int .i64 0, .slice none 0 0] 53] ∧ (y ≤ nl) ∧ (readJ l ls y a acc) ∧ ml = nl + 1 - y) ⟨0, 0, 0, [], none, rfl, H26, Nat.zero_le _, readJ_init, rfl⟩ ⟨rfl, trivial⟩ ?_
    rintro M w27 m29 ⟨y, a, c2, acc, A1, rfl, H28, hyl, hJ, rfl⟩
    have hbd := readJ_bd hJ (by omega)
    refine cw_seq ?_
    refine cw_seq ?_
    refine cw_reg ?_
    refine ry (y_mov rfl rfl) rfl rfl ?_
    refine ry (y_mov rfl rfl) rfl rfl ?_
    refine ry (y_len rfl Try.underlying60 rfl) rfl rfl ?_
    refine ry (y_lss rfl rfl rfl) rfl rfl ?_
    refine reg_nil ?_
    refine fn_next ?_
    refine cw_condd rfl (fun h30 => ?_) (fun h30 => ?_)
    ·skip
     have gs := strs_get (ls := ls) (i := y) (by omega)
     have hBy := hBs.at_ (i := y) (by omega)
     have hsy := getD_len hsz (i := y) (by omega)
     have hrl := rcs_len (s := (ls.getD y []))
     refine cw_skip ?_
     refine fn_next ?_
     refine cw_seq ?_
     refine cw_block ?_
     refine cw_seq ?_
     refine cw_reg ?_
     refine ry (y_mov rfl rfl) rfl rfl ?_
     refine ry (y_mov rfl rfl) rfl rfl ?_
     refine ry (y_iar (hlr.below H28.base) rfl rfl rfl kfreads2_5 (rfl) (by omega) (Nat.mul_one _) (gs)) rfl rfl ?_
     refine ry (y_ldr (hlr.below H28.base) rfl rfl kfreads2_6 (gs)) rfl rfl ?_
     refine reg_op (op_call (refRunes (ls.getD y []) _ hBy (by omega)) rfl kfreads2_7 ⟨rfl, trivial⟩) rfl rfl ?_
     rintro _ w32 ⟨A34, c35, rfl, k31⟩
     have H33 := H28.call k31
     refine ry (y_asg rfl rfl) rfl rfl ?_
     refine reg_nil ?_
     refine fn_next ?_
     refine cw_seq ?_
     refine cw_seq ?_
     refine cw_reg ?_
     refine ry (y_asg rfl rfl) rfl rfl ?_
     refine reg_nil ?_
     refine fn_next ?_
     refine cw_block ?_
     refine cw_loopJ [5, 10, 11, 12, 41, 42, 43, 44, 45, 46, 47, 48, 49, 50, 51, 52, 53, 54, 55, 56, 57, 58, 59, 60, 61, 62, 63, 64] (fun M wl ml => ∃ (k c3 : Nat) (tot dn : List Int) (A2 : Option Addr), M = [(10, .int .i64 (k : Int))] ∧ HS w wl [Ob.row A2 tot.length c3 (vi .i64 tot) 2 1, Ob.blk b21 [.int .i64 (a : Int), .int .i64 (nl : Int), .slice A2 tot.length c3] 53, Ob.blk b4 [.int .i64 0, .int .i64 0, .slice none 0 0] 53, Ob.blk b1 [.int .i64 0, .int .i64 0, .slice none 0 0] 53, Ob.row A34 (rcs (ls.getD y [])).length c35 (strs (rcs (ls.getD y []))) 9 1] ∧ (k ≤ (rcs (ls.getD y [])).length) ∧ (dn.length = k) ∧ (tot = acc ++ dn) ∧ (rowM l (ls.getD y []) = (rcsR l ((rcs (ls.getD y [])).drop k)).map (dn ++ ·)) ∧ ml = (rcs (ls.getD y [])).length + 1 - k) ⟨0, _, acc, [], _, rfl, (H33.pick (m := [_, _, _, _, _]) [1, 2, 3, 4, 0] rfl (by decide)), Nat.zero_le _, rfl, (List.append_nil _).symm, by rw [List.drop_zero, rcsR_eq hR hBy]; cases rowM l (ls.getD y []) <;> simp, rfl⟩ ⟨rfl, trivial⟩ ?_
     rintro M w36 m38 ⟨k, c3, tot, dn, A2, rfl, H37, hkl, hdk, htot, hW, rfl⟩
     have htl : tot.length = acc.length + dn.length := by rw [htot, List.length_append]
     refine cw_seq ?_
     refine cw_seq ?_
     refine cw_reg ?_
     refine ry (y_mov rfl rfl) rfl rfl ?_
     refine ry (y_mov rfl rfl) rfl rfl ?_
     refine ry (y_len rfl Try.underlying60 rfl) rfl rfl ?_
     refine ry (y_lss rfl rfl rfl) rfl rfl ?_
     refine reg_nil ?_
     refine fn_next ?_
     refine cw_condd rfl (fun h39 => ?_) (fun h39 => ?_)
     ·skip
      have gp := strs_get (ls := rcs (ls.getD y [])) (i := k) (by omega)
      refine cw_skip ?_
      refine fn_next ?_
      refine cw_seq ?_
      refine cw_block ?_
      refine cw_seq ?_
      rcases hbk : backPF l ((rcs (ls.getD y [])).getD k []) with _ | f
      ·skip
       refine cw_reg ?_
       refine ry (y_mov rfl rfl) rfl rfl ?_
       refine ry (y_mov rfl rfl) rfl rfl ?_
       refine ry (y_mov rfl rfl) rfl rfl ?_
       refine ry (y_iar (H37.rd (i := 4) rfl) rfl rfl rfl kfreads2_5 (rfl) (by omega) (Nat.mul_one _) (gp)) rfl rfl ?_
       refine ry (y_ldr (H37.rd (i := 4) rfl) rfl rfl kfreads2_6 (gp)) rfl rfl ?_
       refine reg_op (op_call (refBack_none A n c l ((rcs (ls.getD y [])).getD k []) _ hR (rcs_at hBy (by omega)) (hb.below H37.base) hl hn hbk) rfl kfreads2_8 ⟨rfl, rfl, trivial⟩) rfl rfl ?_
       rintro _ w41 ⟨rfl, e40⟩
       have H42 := H37.ext e40
       refine ry (y_mov rfl rfl) rfl rfl ?_
       refine ry (y_ext rfl rfl rfl) rfl rfl ?_
       refine ry (y_ext rfl rfl rfl) rfl rfl ?_
       refine ry (y_asg rfl rfl) rfl rfl ?_
       refine ry (y_asg rfl rfl) rfl rfl ?_
       refine reg_nil ?_
       refine fn_next ?_
       refine cw_seq ?_
       refine cw_seq ?_
       refine cw_reg ?_
       refine ry (y_mov rfl rfl) rfl rfl ?_
       refine ry (y_not rfl rfl) rfl rfl ?_
       refine reg_nil ?_
       refine fn_next ?_
       refine cw_condt rfl ?_
       refine cw_seq ?_
       refine cw_reg ?_
       refine ry (y_ldb (i := 2) (cs := [_, _, _]) H42 rfl rfl kfreads2_4 rfl rfl) rfl rfl ?_
       refine reg_op (op_st (i := 3) (vs := [.int _ _, .int _ _, .slice _ _ _]) H42 rfl rfl rfl rfl rfl kfreads2_2 rfl rfl rfl) rfl rfl ?_
       rintro _ w43 H44
       refine ry (y_asg rfl rfl) rfl rfl ?_
       refine reg_nil ?_
       refine fn_next ?_
       refine cw_ret ?_
       refine fn_then_ret (fn_block_ret (fn_then_ret (fn_then_ret (fn_block_ret (fn_then_ret (fn_block_ret (fn_then_ret (fn_then_ret (fn_block_ret (fn_then_ret ?_))))))))))
       refine fn_retn (vs := [_, _]) rfl ⟨⟨_, rfl, load_agg (cs := [_, _, _]) kfreads2_4 rfl fun j v hv => by rw [Nat.zero_add]; exact H44.cell (i := 3) rfl hv⟩, rfl, trivial⟩ rfl ?_
       have hM : readM l ls = _ := (readM_G hr (by omega)).trans (readJ_none hJ (by omega) (rcsJ_none hR hBy hW (by omega) hbk))
       rw [hd] at hM; cases hM
       exact ⟨rfl, H44.base⟩
      ·skip
       refine cw_reg ?_
       refine ry (y_mov rfl rfl) rfl rfl ?_
       refine ry (y_mov rfl rfl) rfl rfl ?_
       refine ry (y_mov rfl rfl) rfl rfl ?_
       refine ry (y_iar (H37.rd (i := 4) rfl) rfl rfl rfl kfreads2_5 (rfl) (by omega) (Nat.mul_one _) (gp)) rfl rfl ?_
       refine ry (y_ldr (H37.rd (i := 4) rfl) rfl rfl kfreads2_6 (gp)) rfl rfl ?_
       refine reg_op (op_call (refBack_some A n c l ((rcs (ls.getD y [])).getD k []) f _ hR (rcs_at hBy (by omega)) (hb.below H37.base) hl hn hbk) rfl kfreads2_8 ⟨rfl, rfl, trivial⟩) rfl rfl ?_
       rintro _ w46 ⟨rfl, e45⟩
       have H47 := H37.ext e45
       refine ry (y_mov rfl rfl) rfl rfl ?_
       refine ry (y_ext rfl rfl rfl) rfl rfl ?_
       refine ry (y_ext rfl rfl rfl) rfl rfl ?_
       refine ry (y_asg rfl rfl) rfl rfl ?_
       refine ry (y_asg rfl rfl) rfl rfl ?_
       refine reg_nil ?_
       refine fn_next ?_
       refine cw_seq ?_
       refine cw_seq ?_
       refine cw_reg ?_
       refine ry (y_mov rfl rfl) rfl rfl ?_
       refine ry (y_not rfl rfl) rfl rfl ?_
       refine reg_nil ?_
       refine fn_next ?_
       refine cw_condf rfl ?_
       refine cw_skip ?_
       refine fn_next ?_
       refine cw_reg ?_
       refine ry (y_fa rfl rfl kfreads2_9 rfl) rfl rfl ?_
       refine ry (y_ld rfl rfl kfreads2_10 (H47.cell (i := 1) rfl rfl)) rfl rfl ?_
       refine ry (y_mov rfl rfl) rfl rfl ?_
       refine reg_op (op_lit (parts := [(0, _)]) (vs := [(0, _)]) (cs := [.int _ _]) H47 rfl Try.underlying28 kfreads2_11 rfl ⟨rfl, trivial⟩ rfl rfl) rfl rfl ?_
       rintro _ w49 ⟨b48, rfl, H50⟩
       have H51 := H50.asrow (m := 1) (size := 1) rfl (by decide)
       refine reg_op (op_app (i := 1) (ys := [.int .i64 f]) H51 rfl rfl rfl rfl (H51.rd (i := 0) rfl) (rfl) (rfl) Try.underlying28 kfreads2_12 rfl rfl (by unfold maxLen; omega) (by omega)) rfl rfl ?_
       rintro _ w54 ⟨A52, c53, rfl, H55⟩
       refine ry (y_fa rfl rfl kfreads2_9 rfl) rfl rfl ?_
       refine reg_op (op_st (i := 2) (vs := [.slice _ _ _]) H55 rfl rfl rfl rfl rfl kfreads2_13 rfl rfl rfl) rfl rfl ?_
       rintro _ w56 H57
       refine reg_nil ?_
       refine fn_block ?_
       refine fn_next ?_
       refine cw_reg ?_
       refine ry (y_mov rfl rfl) rfl rfl ?_
       refine ry (y_add rfl rfl rfl (wi (by omega))) rfl rfl ?_
       refine ry (y_asg rfl rfl) rfl rfl ?_
       refine reg_nil ?_
       have hpl : tot.length + 1 = (tot ++ [f]).length := by rw [List.length_append]; rfl
       rw [vi_push, hpl] at H57
       refine fn_roundJ ⟨k + 1, _, tot ++ [f], dn ++ [f], _, rfl, (H57.pick (m := [_, _, _, _, _]) [1, 2, 3, 4, 5] rfl (by decide)), by omega, by rw [List.length_append, hdk]; rfl, by rw [htot, List.append_assoc], rcsJ_some hW (by omega) hbk, rfl⟩ ⟨rfl, trivial⟩ (by omega) (by repeat (first | exact kp_refl | refine kp_app rfl rfl ?_ | refine kp_cons rfl ?_)) rfl
     ·skip
      have hrow := rcsJ_end hW (by omega)
      refine cw_exit ?_
      refine fn_then_exit (fn_then_exit (fn_block_exit ?_))
      refine fn_next ?_
      refine cw_seq ?_
      refine cw_seq ?_
      refine cw_reg ?_
      refine ry (y_mov rfl rfl) rfl rfl ?_
      refine ry (y_eql rfl rfl rfl) rfl rfl ?_
      refine reg_nil ?_
      refine fn_next ?_
      refine cw_condd rfl (fun h58 => ?_) (fun h58 => ?_)
      ·skip
       have hw : (rcs (ls.getD y [])).length = if y = 0 then dn.length else a := by rw [if_pos (by omega)]; omega
       refine cw_reg ?_
       refine ry (y_mov rfl rfl) rfl rfl ?_
       refine ry (y_len rfl Try.underlying60 rfl) rfl rfl ?_
       refine ry (y_fa rfl rfl kfreads2_14 rfl) rfl rfl ?_
       refine reg_op (op_st (i := 1) (vs := [.int _ _]) H37 rfl rfl rfl rfl rfl kfreads2_15 rfl rfl rfl) rfl rfl ?_
       rintro _ w59 H60
       refine reg_nil ?_
       refine fn_next ?_
       refine cw_seq ?_
       refine cw_seq ?_
       refine cw_reg ?_
       refine ry (y_fa rfl rfl kfreads2_14 rfl) rfl rfl ?_
       refine ry (y_ld rfl rfl kfreads2_16 (H60.cell (i := 1) rfl rfl)) rfl rfl ?_
       refine ry (y_lss rfl rfl rfl) rfl rfl ?_
       refine ry (y_mov rfl rfl) rfl rfl ?_
       refine rg_splitd (d := 73) rfl (fun h61 => ?_) (fun h61 => ?_)
       ·skip
        refine rg_off rfl rfl rfl rfl rfl ?_
        refine rg_off rfl rfl rfl rfl rfl ?_
        refine rg_off rfl rfl rfl rfl rfl ?_
        refine ry (y_pick rfl rfl rfl) rfl rfl ?_
        refine reg_nil ?_
        refine fn_next ?_
        refine cw_condt rfl ?_
        refine cw_seq ?_
        refine cw_reg ?_
        refine ry (y_ldb (i := 2) (cs := [_, _, _]) H60 rfl rfl kfreads2_4 rfl rfl) rfl rfl ?_
        refine reg_op (op_st (i := 3) (vs := [.int _ _, .int _ _, .slice _ _ _]) H60 rfl rfl rfl rfl rfl kfreads2_2 rfl rfl rfl) rfl rfl ?_
        rintro _ w62 H63
        refine ry (y_asg rfl rfl) rfl rfl ?_
        refine reg_nil ?_
        refine fn_next ?_
        refine cw_ret ?_
        refine fn_then_ret (fn_block_ret (fn_then_ret (fn_then_ret (fn_block_ret (fn_then_ret ?_)))))
        refine fn_retn (vs := [_, _]) rfl ⟨⟨_, rfl, load_agg (cs := [_, _, _]) kfreads2_4 rfl fun j v hv => by rw [Nat.zero_add]; exact H63.cell (i := 3) rfl hv⟩, rfl, trivial⟩ rfl ?_
        have hM : readM l ls = _ := (readM_G hr (by omega)).trans (readJ_size hJ (by omega) hrow hw (by omega))
        rw [hd] at hM; cases hM
        exact ⟨rfl, H63.base⟩
       ·skip
        refine rgy (y_fa rfl rfl kfreads2_14 rfl) rfl rfl rfl rfl ?_
        refine rgy (y_ld rfl rfl kfreads2_16 (H60.cell (i := 1) rfl rfl)) rfl rfl rfl rfl ?_
        refine rgy (y_gtr rfl rfl rfl) rfl rfl rfl rfl ?_
        refine ry (y_pick rfl rfl rfl) rfl rfl ?_
        refine reg_nil ?_
        refine fn_next ?_
        refine cw_condd rfl (fun h64 => ?_) (fun h64 => ?_)
        ·skip
         refine cw_seq ?_
         refine cw_reg ?_
         refine ry (y_ldb (i := 2) (cs := [_, _, _]) H60 rfl rfl kfreads2_4 rfl rfl) rfl rfl ?_
         refine reg_op (op_st (i := 3) (vs := [.int _ _, .int _ _, .slice _ _ _]) H60 rfl rfl rfl rfl rfl kfreads2_2 rfl rfl rfl) rfl rfl ?_
         rintro _ w65 H66
         refine ry (y_asg rfl rfl) rfl rfl ?_
         refine reg_nil ?_
         refine fn_next ?_
         refine cw_ret ?_
         refine fn_then_ret (fn_block_ret (fn_then_ret (fn_then_ret (fn_block_ret (fn_then_ret ?_)))))
         refine fn_retn (vs := [_, _]) rfl ⟨⟨_, rfl, load_agg (cs := [_, _, _]) kfreads2_4 rfl fun j v hv => by rw [Nat.zero_add]; exact H66.cell (i := 3) rfl hv⟩, rfl, trivial⟩ rfl ?_
         have hM : readM l ls = _ := (readM_G hr (by omega)).trans (readJ_size hJ (by omega) hrow hw (by omega))
         rw [hd] at hM; cases hM
         exact ⟨rfl, H66.base⟩
        ·skip
         refine cw_skip ?_
         refine fn_next ?_
         refine cw_seq ?_
         refine cw_reg ?_
         refine ry (y_mov rfl rfl) rfl rfl ?_
         refine ry (y_len rfl Try.underlying60 rfl) rfl rfl ?_
         refine ry (y_fa rfl rfl kfreads2_14 rfl) rfl rfl ?_
         refine ry (y_ld rfl rfl kfreads2_16 (H60.cell (i := 1) rfl rfl)) rfl rfl ?_
         refine ry (y_neq rfl rfl rfl) rfl rfl ?_
         refine reg_nil ?_
         refine fn_next ?_
         refine cw_condd rfl (fun h67 => ?_) (fun h67 => ?_)
         ·skip
          refine cw_seq ?_
          refine cw_reg ?_
          refine ry (y_ldb (i := 2) (cs := [_, _, _]) H60 rfl rfl kfreads2_4 rfl rfl) rfl rfl ?_
          refine reg_op (op_st (i := 3) (vs := [.int _ _, .int _ _, .slice _ _ _]) H60 rfl rfl rfl rfl rfl kfreads2_2 rfl rfl rfl) rfl rfl ?_
          rintro _ w68 H69
          refine ry (y_asg rfl rfl) rfl rfl ?_
          refine reg_nil ?_
          refine fn_next ?_
          refine cw_ret ?_
          refine fn_block_ret (fn_then_ret (fn_then_ret (fn_block_ret (fn_then_ret ?_))))
          refine fn_retn (vs := [_, _]) rfl ⟨⟨_, rfl, load_agg (cs := [_, _, _]) kfreads2_4 rfl fun j v hv => by rw [Nat.zero_add]; exact H69.cell (i := 3) rfl hv⟩, rfl, trivial⟩ rfl ?_
          have hM : readM l ls = _ := (readM_G hr (by omega)).trans (readJ_form hJ (by omega) hrow hw (by omega) (by omega))
          rw [hd] at hM; cases hM
          exact ⟨rfl, H69.base⟩
         ·skip
          refine cw_skip ?_
          refine fn_block ?_
          refine fn_next ?_
          refine cw_reg ?_
          refine ry (y_mov rfl rfl) rfl rfl ?_
          refine ry (y_add rfl rfl rfl (wi (by omega))) rfl rfl ?_
          refine ry (y_asg rfl rfl) rfl rfl ?_
          refine reg_nil ?_
          refine fn_roundJ ⟨y + 1, (rcs (ls.getD y [])).length, _, tot, _, rfl, (H60.pick (m := [_, _, _, _]) [0, 1, 2, 3] rfl (by decide)), by omega, by rw [htot]; exact readJ_next hR hJ (by omega) hrow hw (by omega) (by omega), rfl⟩ ⟨rfl, trivial⟩ (by omega) (by repeat (first | exact kp_refl | refine kp_app rfl rfl ?_ | refine kp_cons rfl ?_)) rfl
      ·skip
       have hw : a = if y = 0 then dn.length else a := by rw [if_neg (by omega)]
       refine cw_skip ?_
       refine fn_next ?_
       refine cw_seq ?_
       refine cw_seq ?_
       refine cw_reg ?_
       refine ry (y_fa rfl rfl kfreads2_14 rfl) rfl rfl ?_
       refine ry (y_ld rfl rfl kfreads2_16 (H37.cell (i := 1) rfl rfl)) rfl rfl ?_
       refine ry (y_lss rfl rfl rfl) rfl rfl ?_
       refine ry (y_mov rfl rfl) rfl rfl ?_
       refine rg_splitd (d := 73) rfl (fun h70 => ?_) (fun h70 => ?_)
       ·skip
        refine rg_off rfl rfl rfl rfl rfl ?_
        refine rg_off rfl rfl rfl rfl rfl ?_
        refine rg_off rfl rfl rfl rfl rfl ?_
        refine ry (y_pick rfl rfl rfl) rfl rfl ?_
        refine reg_nil ?_
        refine fn_next ?_
        refine cw_condt rfl ?_
        refine cw_seq ?_
        refine cw_reg ?_
        refine ry (y_ldb (i := 2) (cs := [_, _, _]) H37 rfl rfl kfreads2_4 rfl rfl) rfl rfl ?_
        refine reg_op (op_st (i := 3) (vs := [.int _ _, .int _ _, .slice _ _ _]) H37 rfl rfl rfl rfl rfl kfreads2_2 rfl rfl rfl) rfl rfl ?_
        rintro _ w71 H72
        refine ry (y_asg rfl rfl) rfl rfl ?_
        refine reg_nil ?_
        refine fn_next ?_
        refine cw_ret ?_
        refine fn_then_ret (fn_block_ret (fn_then_ret (fn_then_ret (fn_block_ret (fn_then_ret ?_)))))
        refine fn_retn (vs := [_, _]) rfl ⟨⟨_, rfl, load_agg (cs := [_, _, _]) kfreads2_4 rfl fun j v hv => by rw [Nat.zero_add]; exact H72.cell (i := 3) rfl hv⟩, rfl, trivial⟩ rfl ?_
        have hM : readM l ls = _ := (readM_G hr (by omega)).trans (readJ_size hJ (by omega) hrow hw (by omega))
        rw [hd] at hM; cases hM
        exact ⟨rfl, H72.base⟩
       ·skip
        refine rgy (y_fa rfl rfl kfreads2_14 rfl) rfl rfl rfl rfl ?_
        refine rgy (y_ld rfl rfl kfreads2_16 (H37.cell (i := 1) rfl rfl)) rfl rfl rfl rfl ?_
        refine rgy (y_gtr rfl rfl rfl) rfl rfl rfl rfl ?_
        refine ry (y_pick rfl rfl rfl) rfl rfl ?_
        refine reg_nil ?_
        refine fn_next ?_
        refine cw_condd rfl (fun h73 => ?_) (fun h73 => ?_)
        ·skip
         refine cw_seq ?_
         refine cw_reg ?_
         refine ry (y_ldb (i := 2) (cs := [_, _, _]) H37 rfl rfl kfreads2_4 rfl rfl) rfl rfl ?_
         refine reg_op (op_st (i := 3) (vs := [.int _ _, .int _ _, .slice _ _ _]) H37 rfl rfl rfl rfl rfl kfreads2_2 rfl rfl rfl) rfl rfl ?_
         rintro _ w74 H75
         refine ry (y_asg rfl rfl) rfl rfl ?_
         refine reg_nil ?_
         refine fn_next ?_
         refine cw_ret ?_
         refine fn_then_ret (fn_block_ret (fn_then_ret (fn_then_ret (fn_block_ret (fn_then_ret ?_)))))
         refine fn_retn (vs := [_, _]) rfl ⟨⟨_, rfl, load_agg (cs := [_, _, _]) kfreads2_4 rfl fun j v hv => by rw [Nat.zero_add]; exact H75.cell (i := 3) rfl hv⟩, rfl, trivial⟩ rfl ?_
         have hM : readM l ls = _ := (readM_G hr (by omega)).trans (readJ_size hJ (by omega) hrow hw (by omega))
         rw [hd] at hM; cases hM
         exact ⟨rfl, H75.base⟩
        ·skip
         refine cw_skip ?_
         refine fn_next ?_
         refine cw_seq ?_
         refine cw_reg ?_
         refine ry (y_mov rfl rfl) rfl rfl ?_
         refine ry (y_len rfl Try.underlying60 rfl) rfl rfl ?_
         refine ry (y_fa rfl rfl kfreads2_14 rfl) rfl rfl ?_
         refine ry (y_ld rfl rfl kfreads2_16 (H37.cell (i := 1) rfl rfl)) rfl rfl ?_
         refine ry (y_neq rfl rfl rfl) rfl rfl ?_
         refine reg_nil ?_
         refine fn_next ?_
         refine cw_condd rfl (fun h76 => ?_) (fun h76 => ?_)
         ·skip
          refine cw_seq ?_
          refine cw_reg ?_
          refine ry (y_ldb (i := 2) (cs := [_, _, _]) H37 rfl rfl kfreads2_4 rfl rfl) rfl rfl ?_
          refine reg_op (op_st (i := 3) (vs := [.int _ _, .int _ _, .slice _ _ _]) H37 rfl rfl rfl rfl rfl kfreads2_2 rfl rfl rfl) rfl rfl ?_
          rintro _ w77 H78
          refine ry (y_asg rfl rfl) rfl rfl ?_
          refine reg_nil ?_
          refine fn_next ?_
          refine cw_ret ?_
          refine fn_block_ret (fn_then_ret (fn_then_ret (fn_block_ret (fn_then_ret ?_))))
          refine fn_retn (vs := [_, _]) rfl ⟨⟨_, rfl, load_agg (cs := [_, _, _]) kfreads2_4 rfl fun j v hv => by rw [Nat.zero_add]; exact H78.cell (i := 3) rfl hv⟩, rfl, trivial⟩ rfl ?_
          have hM : readM l ls = _ := (readM_G hr (by omega)).trans (readJ_form hJ (by omega) hrow hw (by omega) (by omega))
          rw [hd] at hM; cases hM
          exact ⟨rfl, H78.base⟩
         ·skip
          refine cw_skip ?_
          refine fn_block ?_
          refine fn_next ?_
          refine cw_reg ?_
          refine ry (y_mov rfl rfl) rfl rfl ?_
          refine ry (y_add rfl rfl rfl (wi (by omega))) rfl rfl ?_
          refine ry (y_asg rfl rfl) rfl rfl ?_
          refine reg_nil ?_
          refine fn_roundJ ⟨y + 1, a, _, tot, _, rfl, (H37.pick (m := [_, _, _, _]) [0, 1, 2, 3] rfl (by decide)), by omega, by rw [htot]; exact readJ_next hR hJ (by omega) hrow hw (by omega) (by omega), rfl⟩ ⟨rfl, trivial⟩ (by omega) (by repeat (first | exact kp_refl | refine kp_app rfl rfl ?_ | refine kp_cons rfl ?_)) rfl
    ·skip
     obtain rfl : nl = y := by omega
     refine cw_exit ?_
     refine fn_then_exit (fn_then_exit (fn_block_exit ?_))
     refine fn_next ?_
     refine cw_seq ?_
     refine cw_reg ?_
     refine ry (y_ldb (i := 1) (cs := [_, _, _]) H28 rfl rfl kfreads2_4 rfl rfl) rfl rfl ?_
     refine reg_op (op_st (i := 3) (vs := [.int _ _, .int _ _, .slice _ _ _]) H28 rfl rfl rfl rfl rfl kfreads2_2 rfl rfl rfl) rfl rfl ?_
     rintro _ w79 H80
     refine ry (y_asg rfl rfl) rfl rfl ?_
     refine reg_nil ?_
     refine fn_next ?_
     refine cw_ret ?_
     refine fn_retn (vs := [_, _]) rfl ⟨⟨_, rfl, load_agg (cs := [_, _, _]) kfreads2_4 rfl fun j v hv => by rw [Nat.zero_add]; exact H80.cell (i := 3) rfl hv⟩, rfl, trivial⟩ rfl ?_
     have hM : readM l ls = _ := (readM_G hr (by omega)).trans (readJ_end hJ (by omega))
     rw [hd] at hM; cases hM
     exact absurd rfl he

set_option maxRecDepth 100000 in
set_option maxHeartbeats 4000000 in
theorem mReadOk (LA : Option Addr) (nl lc : Nat) (ls : List (List Int)) (A : Option Addr) (n c : Nat) (l : List Bd) (a : Nat) (acc : List Int) (w : World) (hlr : Rd w LA (strs ls)) (hll : ls.length = nl) (hnl : nl ≤ 1000000) (hBs : Byts ls) (hsz : ∀ s ∈ ls, s.length ≤ 1000000) (hb : Rd w A (bcells l)) (hl : l.length = n) (hn : n ≤ 100000000) (hd : readM l ls = (0, a, acc)) :
    Ret Try.prog 31 [.slice LA nl lc, .slice A n c] w (fun v w' => ∃ A3 c3, v = .tuple #[.agg #[.int .i64 (a : Int), .int .i64 (nl : Int), .slice A3 (a * nl) c3], .int .i64 0] ∧ HS w w' [.row A3 (a * nl) c3 (vi .i64 acc) 2 1]) := by
 refine ret_enter Try.func31 rfl rfl rfl ?_
 have H0 := HS.start w
 refine cw_seq ?_
 refine cw_reg ?_
 refine reg_op (op_alloc H0 rfl kfreads2_1) rfl rfl ?_
 rintro _ w2 ⟨b1, rfl, H3⟩
 refine ry (y_asg rfl rfl) rfl rfl ?_
 refine reg_nil ?_
 refine fn_next ?_
 refine cw_seq ?_
 refine cw_reg ?_
 refine ry (y_build (places := [(0, 1), (1, 1), (2, 1)]) (parts := []) (vs := []) (cs := [.int _ _, .int _ _, .slice _ _ _]) rfl Try.underlying53 (by kernel_rfl) kfreads2_1 rfl trivial rfl) rfl rfl ?_
 refine reg_op (op_alloc H3 rfl kfreads2_1) rfl rfl ?_
 rintro _ w5 ⟨b4, rfl, H6⟩
 refine reg_op (op_st (i := 0) (vs := [.int _ _, .int _ _, .slice _ _ _]) H6 rfl rfl rfl rfl rfl kfreads2_2 rfl rfl rfl) rfl rfl ?_
 rintro _ w7 H8
 refine reg_nil ?_
 refine fn_next ?_
 refine cw_seq ?_
 refine cw_seq ?_
 refine cw_reg ?_
 refine ry (y_mov rfl rfl) rfl rfl ?_
 refine reg_op (op_call (refRight3 A n c l _ (hb.below H8.base) hl hn) rfl kfreads2_3 ⟨rfl, trivial⟩) rfl rfl ?_
 rintro _ w10 ⟨rfl, e9⟩
 have H11 := H8.ext e9
 refine ry (y_not rfl rfl) rfl rfl ?_
 refine reg_nil ?_
 refine fn_next ?_
 refine cw_cond rfl (fun h12 => ?_) (fun h12 => ?_)
 ·skip
  have hr : rgtB l = false := by simpa using h12
  refine cw_seq ?_
  refine cw_reg ?_
  refine ry (y_ldb (i := 0) (cs := [_, _, _]) H11 rfl rfl kfreads2_4 rfl rfl) rfl rfl ?_
  refine reg_op (op_st (i := 1) (vs := [.int _ _, .int _ _, .slice _ _ _]) H11 rfl rfl rfl rfl rfl kfreads2_2 rfl rfl rfl) rfl rfl ?_
  rintro _ w13 H14
  refine ry (y_asg rfl rfl) rfl rfl ?_
  refine reg_nil ?_
  refine fn_next ?_
  refine cw_ret ?_
  refine fn_then_ret ?_
  refine fn_retn (vs := [_, _]) rfl ⟨⟨_, rfl, load_agg (cs := [_, _, _]) kfreads2_4 rfl fun j v hv => by rw [Nat.zero_add]; exact H14.cell (i := 1) rfl hv⟩, rfl, trivial⟩ rfl ?_
  have hM : readM l ls = _ := readM_R hr
  rw [hd] at hM; cases hM
 ·skip
  have hr : rgtB l = true := by simpa using h12
  have hR := (rgtB_iff l).1 hr
  refine cw_skip ?_
  refine fn_next ?_
  refine cw_seq ?_
  refine cw_seq ?_
  refine cw_reg ?_
  refine ry (y_mov rfl rfl) rfl rfl ?_
  refine ry (y_len rfl Try.underlying60 rfl) rfl rfl ?_
  refine ry (y_lss rfl rfl rfl) rfl rfl ?_
  refine ry (y_mov rfl rfl) rfl rfl ?_
  refine rg_splitd (d := 21) rfl (fun h15 => ?_) (fun h15 => ?_)
  ·skip
   refine rg_off rfl rfl rfl rfl rfl ?_
   refine rg_off rfl rfl rfl rfl rfl ?_
   refine rg_off rfl rfl rfl rfl rfl ?_
   refine ry (y_pick rfl rfl rfl) rfl rfl ?_
   refine reg_nil ?_
   refine fn_next ?_
   refine cw_condt rfl ?_
   refine cw_seq ?_
   refine cw_reg ?_
   refine ry (y_ldb (i := 0) (cs := [_, _, _]) H11 rfl rfl kfreads2_4 rfl rfl) rfl rfl ?_
   refine reg_op (op_st (i := 1) (vs := [.int _ _, .int _ _, .slice _ _ _]) H11 rfl rfl rfl rfl rfl kfreads2_2 rfl rfl rfl) rfl rfl ?_
   rintro _ w16 H17
   refine ry (y_asg rfl rfl) rfl rfl ?_
   refine reg_nil ?_
   refine fn_next ?_
   refine cw_ret ?_
   refine fn_then_ret ?_
   refine fn_retn (vs := [_, _]) rfl ⟨⟨_, rfl, load_agg (cs := [_, _, _]) kfreads2_4 rfl fun j v hv => by rw [Nat.zero_add]; exact H17.cell (i := 1) rfl hv⟩, rfl, trivial⟩ rfl ?_
   have hM : readM l ls = _ := readM_S hr (by omega)
   rw [hd] at hM; cases hM
  ·skip
   refine rgy (y_mov rfl rfl) rfl rfl rfl rfl ?_
   refine rgy (y_len rfl Try.underlying60 rfl) rfl rfl rfl rfl ?_
   refine rgy (y_gtr rfl rfl rfl) rfl rfl rfl rfl ?_
   refine ry (y_pick rfl rfl rfl) rfl rfl ?_
   refine reg_nil ?_
   refine fn_next ?_
   refine cw_condd rfl (fun h18 => ?_) (fun h18 => ?_)
   ·skip
    refine cw_seq ?_
    refine cw_reg ?_
    refine ry (y_ldb (i := 0) (cs := [_, _, _]) H11 rfl rfl kfreads2_4 rfl rfl) rfl rfl ?_
    refine reg_op (op_st (i := 1) (vs := [.int _ _, .int _ _, .slice _ _ _]) H11 rfl rfl rfl rfl rfl kfreads2_2 rfl rfl rfl) rfl rfl ?_
    rintro _ w19 H20
    refine ry (y_asg rfl rfl) rfl rfl ?_
    refine reg_nil ?_
    refine fn_next ?_
    refine cw_ret ?_
    refine fn_then_ret ?_
    refine fn_retn (vs := [_, _]) rfl ⟨⟨_, rfl, load_agg (cs := [_, _, _]) kfreads2_4 rfl fun j v hv => by rw [Nat.zero_add]; exact H20.cell (i := 1) rfl hv⟩, rfl, trivial⟩ rfl ?_
    have hM : readM l ls = _ := readM_S hr (by omega)
    rw [hd] at hM; cases hM
   ·skip
    refine cw_skip ?_
    refine fn_next ?_
    refine cw_seq ?_
    refine cw_reg ?_
    refine ry (y_mov rfl rfl) rfl rfl ?_
    refine ry (y_len rfl Try.underlying60 rfl) rfl rfl ?_
    refine ry (y_build (places := [(0, 1), (1, 1), (2, 1)]) (parts := [(1, _)]) (vs := [(1, _)]) (cs := [.int _ _, .int _ _, .slice _ _ _]) rfl Try.underlying53 (by kernel_rfl) kfreads2_1 rfl ⟨rfl, trivial⟩ rfl) rfl rfl ?_
    refine reg_op (op_alloc H11 rfl kfreads2_1) rfl rfl ?_
    rintro _ w22 ⟨b21, rfl, H23⟩
    refine reg_op (op_st (i := 0) (vs := [.int _ _, .int _ _, .slice _ _ _]) H23 rfl rfl rfl rfl rfl kfreads2_2 rfl rfl rfl) rfl rfl ?_
    rintro _ w24 H25
    refine reg_nil ?_
    refine fn_next ?_
    refine cw_seq ?_
    refine cw_seq ?_
    refine cw_reg ?_
    refine ry (y_asg rfl rfl) rfl rfl ?_
    refine reg_nil ?_
    refine fn_next ?_
    refine cw_block ?_
    have H26 := H25.nilrow 2 1
    refine cw_loopJ [5, 8, 9, 10, 11, 12, 30, 31, 32, 33, 34, 35, 36, 37, 38, 39, 40, 41, 42, 43, 44, 45, 46, 47, 48, 49, 50, 51, 52, 53, 54, 55, 56, 57, 58, 59, 60, 61, 62, 63, 64, 65, 66, 67, 68, 69, 70, 71, 72, 73, 74, 75, 76, 77, 78, 79, 80, 81, 82, 83, 84] (fun M wl ml => ∃ (y a c2 : Nat) (acc : List Int) (A1 : Option Addr), M = [(8, .int .i64 (y : Int))] ∧ HS w wl [Ob.row A1 acc.length c2 (vi .i64 acc) 2 1, Ob.blk b21 [.int .i64 (a : Int), .int .i64 (nl : Int), .slice A1 acc.length c2] 53, Ob.blk b4 [.int .i64 0, .int .i64 0, .slice none 0 0] 53, Ob.blk b1 [.int .i64 0, .int .i64 0, .slice none 0 0] 53] ∧ (y ≤ nl) ∧ (readJ l ls y a acc) ∧ ml = nl + 1 - y) ⟨0, 0, 0, [], none, rfl, H26, Nat.zero_le _, readJ_init, rfl⟩ ⟨rfl, trivial⟩ ?_
    rintro M w27 m29 ⟨y, a, c2, acc, A1, rfl, H28, hyl, hJ, rfl⟩
    have hbd := readJ_bd hJ (by omega)
    refine cw_seq ?_
    refine cw_seq ?_
    refine cw_reg ?_
    refine ry (y_mov rfl rfl) rfl rfl ?_
    refine ry (y_mov rfl rfl) rfl rfl ?_
    refine ry (y_len rfl Try.underlying60 rfl) rfl rfl ?_
    refine ry (y_lss rfl rfl rfl) rfl rfl ?_
    refine reg_nil ?_
    refine fn_next ?_
    refine cw_condd rfl (fun h30 => ?_) (fun h30 => ?_)
    ·skip
     have gs := strs_get (ls := ls) (i := y) (by omega)
     have hBy := hBs.at_ (i := y) (by omega)
     have hsy := getD_len hsz (i := y) (by omega)
     have hrl := rcs_len (s := (ls.getD y []))
     refine cw_skip ?_
     refine fn_next ?_
     refine cw_seq ?_
     refine cw_block ?_
     refine cw_seq ?_
     refine cw_reg ?_
     refine ry (y_mov rfl rfl) rfl rfl ?_
     refine ry (y_mov rfl rfl) rfl rfl ?_
     refine ry (y_iar (hlr.below H28.base) rfl rfl rfl kfreads2_5 (rfl) (by omega) (Nat.mul_one _) (gs)) rfl rfl ?_
     refine ry (y_ldr (hlr.below H28.base) rfl rfl kfreads2_6 (gs)) rfl rfl ?_
     refine reg_op (op_call (refRunes (ls.getD y []) _ hBy (by omega)) rfl kfreads2_7 ⟨rfl, trivial⟩) rfl rfl ?_
     rintro _ w32 ⟨A34, c35, rfl, k31⟩
     have H33 := H28.call k31
     refine ry (y_asg rfl rfl) rfl rfl ?_
     refine reg_nil ?_
     refine fn_next ?_
     refine cw_seq ?_
     refine cw_seq ?_
     refine cw_reg ?_
     refine ry (y_asg rfl rfl) rfl rfl ?_
     refine reg_nil ?_
     refine fn_next ?_
     refine cw_block ?_
     refine cw_loopJ [5, 10, 11, 12, 41, 42, 43, 44, 45, 46, 47, 48, 49, 50, 51, 52, 53, 54, 55, 56, 57, 58, 59, 60, 61, 62, 63, 64] (fun M wl ml => ∃ (k c3 : Nat) (tot dn : List Int) (A2 : Option Addr), M = [(10, .int .i64 (k : Int))] ∧ HS w wl [Ob.row A2 tot.length c3 (vi .i64 tot) 2 1, Ob.blk b21 [.int .i64 (a : Int), .int .i64 (nl : Int), .slice A2 tot.length c3] 53, Ob.blk b4 [.int .i64 0, .int .i64 0, .slice none 0 0] 53, Ob.blk b1 [.int .i64 0, .int .i64 0, .slice none 0 0] 53, Ob.row A34 (rcs (ls.getD y [])).length c35 (strs (rcs (ls.getD y []))) 9 1] ∧ (k ≤ (rcs (ls.getD y [])).length) ∧ (dn.length = k) ∧ (tot = acc ++ dn) ∧ (rowM l (ls.getD y []) = (rcsR l ((rcs (ls.getD y [])).drop k)).map (dn ++ ·)) ∧ ml = (rcs (ls.getD y [])).length + 1 - k) ⟨0, _, acc, [], _, rfl, (H33.pick (m := [_, _, _, _, _]) [1, 2, 3, 4, 0] rfl (by decide)), Nat.zero_le _, rfl, (List.append_nil _).symm, by rw [List.drop_zero, rcsR_eq hR hBy]; cases rowM l (ls.getD y []) <;> simp, rfl⟩ ⟨rfl, trivial⟩ ?_
     rintro M w36 m38 ⟨k, c3, tot, dn, A2, rfl, H37, hkl, hdk, htot, hW, rfl⟩
     have htl : tot.length = acc.length + dn.length := by rw [htot, List.length_append]
     refine cw_seq ?_
     refine cw_seq ?_
     refine cw_reg ?_
     refine ry (y_mov rfl rfl) rfl rfl ?_
     refine ry (y_mov rfl rfl) rfl rfl ?_
     refine ry (y_len rfl Try.underlying60 rfl) rfl rfl ?_
     refine ry (y_lss rfl rfl rfl) rfl rfl ?_
     refine reg_nil ?_
     refine fn_next ?_
     refine cw_condd rfl (fun h39 => ?_) (fun h39 => ?_)
     ·skip
      have gp := strs_get (ls := rcs (ls.getD y [])) (i := k) (by omega)
      refine cw_skip ?_
      refine fn_next ?_
      refine cw_seq ?_
      refine cw_block ?_
      refine cw_seq ?_
      rcases hbk : backPF l ((rcs (ls.getD y [])).getD k []) with _ | f
      ·skip
       refine cw_reg ?_
       refine ry (y_mov rfl rfl) rfl rfl ?_
       refine ry (y_mov rfl rfl) rfl rfl ?_
       refine ry (y_mov rfl rfl) rfl rfl ?_
       refine ry (y_iar (H37.rd (i := 4) rfl) rfl rfl rfl kfreads2_5 (rfl) (by omega) (Nat.mul_one _) (gp)) rfl rfl ?_
       refine ry (y_ldr (H37.rd (i := 4) rfl) rfl rfl kfreads2_6 (gp)) rfl rfl ?_
       refine reg_op (op_call (refBack_none A n c l ((rcs (ls.getD y [])).getD k []) _ hR (rcs_at hBy (by omega)) (hb.below H37.base) hl hn hbk) rfl kfreads2_8 ⟨rfl, rfl, trivial⟩) rfl rfl ?_
       rintro _ w41 ⟨rfl, e40⟩
       have H42 := H37.ext e40
       refine ry (y_mov rfl rfl) rfl rfl ?_
       refine ry (y_ext rfl rfl rfl) rfl rfl ?_
       refine ry (y_ext rfl rfl rfl) rfl rfl ?_
       refine ry (y_asg rfl rfl) rfl rfl ?_
       refine ry (y_asg rfl rfl) rfl rfl ?_
       refine reg_nil ?_
       refine fn_next ?_
       refine cw_seq ?_
       refine cw_seq ?_
       refine cw_reg ?_
       refine ry (y_mov rfl rfl) rfl rfl ?_
       refine ry (y_not rfl rfl) rfl rfl ?_
       refine reg_nil ?_
       refine fn_next ?_
       refine cw_condt rfl ?_
       refine cw_seq ?_
       refine cw_reg ?_
       refine ry (y_ldb (i := 2) (cs := [_, _, _]) H42 rfl rfl kfreads2_4 rfl rfl) rfl rfl ?_
       refine reg_op (op_st (i := 3) (vs := [.int _ _, .int _ _, .slice _ _ _]) H42 rfl rfl rfl rfl rfl kfreads2_2 rfl rfl rfl) rfl rfl ?_
       rintro _ w43 H44
       refine ry (y_asg rfl rfl) rfl rfl ?_
       refine reg_nil ?_
       refine fn_next ?_
       refine cw_ret ?_
       refine fn_then_ret (fn_block_ret (fn_then_ret (fn_then_ret (fn_block_ret (fn_then_ret (fn_block_ret (fn_then_ret (fn_then_ret (fn_block_ret (fn_then_ret ?_))))))))))
       refine fn_retn (vs := [_, _]) rfl ⟨⟨_, rfl, load_agg (cs := [_, _, _]) kfreads2_4 rfl fun j v hv => by rw [Nat.zero_add]; exact H44.cell (i := 3) rfl hv⟩, rfl, trivial⟩ rfl ?_
       have hM : readM l ls = _ := (readM_G hr (by omega)).trans (readJ_none hJ (by omega) (rcsJ_none hR hBy hW (by omega) hbk))
       rw [hd] at hM; cases hM
      ·skip
       refine cw_reg ?_
       refine ry (y_mov rfl rfl) rfl rfl ?_
       refine ry (y_mov rfl rfl) rfl rfl ?_
       refine ry (y_mov rfl rfl) rfl rfl ?_
       refine ry (y_iar (H37.rd (i := 4) rfl) rfl rfl rfl kfreads2_5 (rfl) (by omega) (Nat.mul_one _) (gp)) rfl rfl ?_
       refine ry (y_ldr (H37.rd (i := 4) rfl) rfl rfl kfreads2_6 (gp)) rfl rfl ?_
       refine reg_op (op_call (refBack_some A n c l ((rcs (ls.getD y [])).getD k []) f _ hR (rcs_at hBy (by omega)) (hb.below H37.base) hl hn hbk) rfl kfreads2_8 ⟨rfl, rfl, trivial⟩) rfl rfl ?_
       rintro _ w46 ⟨rfl, e45⟩
       have H47 := H37.ext e45
       refine ry (y_mov rfl rfl) rfl rfl ?_
       refine ry (y_ext rfl rfl rfl) rfl rfl ?_
       refine ry (y_ext rfl rfl rfl) rfl rfl ?_
       refine ry (y_asg rfl rfl) rfl rfl ?_
       refine ry (y_asg rfl rfl) rfl rfl ?_
       refine reg_nil ?_
       refine fn_next ?_
       refine cw_seq ?_
       refine cw_seq ?_
       refine cw_reg ?_
       refine ry (y_mov rfl rfl) rfl rfl ?_
       refine ry (y_not rfl rfl) rfl rfl ?_
       refine reg_nil ?_
       refine fn_next ?_
       refine cw_condf rfl ?_
       refine cw_skip ?_
       refine fn_next ?_
       refine cw_reg ?_
       refine ry (y_fa rfl rfl kfreads2_9 rfl) rfl rfl ?_
       refine ry (y_ld rfl rfl kfreads2_10 (H47.cell (i := 1) rfl rfl)) rfl rfl ?_
       refine ry (y_mov rfl rfl) rfl rfl ?_
       refine reg_op (op_lit (parts := [(0, _)]) (vs := [(0, _)]) (cs := [.int _ _]) H47 rfl Try.underlying28 kfreads2_11 rfl ⟨rfl, trivial⟩ rfl rfl) rfl rfl ?_
       rintro _ w49 ⟨b48, rfl, H50⟩
       have H51 := H50.asrow (m := 1) (size := 1) rfl (by decide)
       refine reg_op (op_app (i := 1) (ys := [.int .i64 f]) H51 rfl rfl rfl rfl (H51.rd (i := 0) rfl) (rfl) (rfl) Try.underlying28 kfreads2_12 rfl rfl (by unfold maxLen; omega) (by omega)) rfl rfl ?_
       rintro _ w54 ⟨A52, c53, rfl, H55⟩
       refine ry (y_fa rfl rfl kfreads2_9 rfl) rfl rfl ?_
       refine reg_op (op_st (i := 2) (vs := [.slice _ _ _]) H55 rfl rfl rfl rfl rfl kfreads2_13 rfl rfl rfl) rfl rfl ?_
       rintro _ w56 H57
       refine reg_nil ?_
       refine fn_block ?_
       refine fn_next ?_
       refine cw_reg ?_
       refine ry (y_mov rfl rfl) rfl rfl ?_
       refine ry (y_add rfl rfl rfl (wi (by omega))) rfl rfl ?_
       refine ry (y_asg rfl rfl) rfl rfl ?_
       refine reg_nil ?_
       have hpl : tot.length + 1 = (tot ++ [f]).length := by rw [List.length_append]; rfl
       rw [vi_push, hpl] at H57
       refine fn_roundJ ⟨k + 1, _, tot ++ [f], dn ++ [f], _, rfl, (H57.pick (m := [_, _, _, _, _]) [1, 2, 3, 4, 5] rfl (by decide)), by omega, by rw [List.length_append, hdk]; rfl, by rw [htot, List.append_assoc], rcsJ_some hW (by omega) hbk, rfl⟩ ⟨rfl, trivial⟩ (by omega) (by repeat (first | exact kp_refl | refine kp_app rfl rfl ?_ | refine kp_cons rfl ?_)) rfl
     ·skip
      have hrow := rcsJ_end hW (by omega)
      refine cw_exit ?_
      refine fn_then_exit (fn_then_exit (fn_block_exit ?_))
      refine fn_next ?_
      refine cw_seq ?_
      refine cw_seq ?_
      refine cw_reg ?_
      refine ry (y_mov rfl rfl) rfl rfl ?_
      refine ry (y_eql rfl rfl rfl) rfl rfl ?_
      refine reg_nil ?_
      refine fn_next ?_
      refine cw_condd rfl (fun h58 => ?_) (fun h58 => ?_)
      ·skip
       have hw : (rcs (ls.getD y [])).length = if y = 0 then dn.length else a := by rw [if_pos (by omega)]; omega
       refine cw_reg ?_
       refine ry (y_mov rfl rfl) rfl rfl ?_
       refine ry (y_len rfl Try.underlying60 rfl) rfl rfl ?_
       refine ry (y_fa rfl rfl kfreads2_14 rfl) rfl rfl ?_
       refine reg_op (op_st (i := 1) (vs := [.int _ _]) H37 rfl rfl rfl rfl rfl kfreads2_15 rfl rfl rfl) rfl rfl ?_
       rintro _ w59 H60
       refine reg_nil ?_
       refine fn_next ?_
       refine cw_seq ?_
       refine cw_seq ?_
       refine cw_reg ?_
       refine ry (y_fa rfl rfl kfreads2_14 rfl) rfl rfl ?_
       refine ry (y_ld rfl rfl kfreads2_16 (H60.cell (i := 1) rfl rfl)) rfl rfl ?_
       refine ry (y_lss rfl rfl rfl) rfl rfl ?_
       refine ry (y_mov rfl rfl) rfl rfl ?_
       refine rg_splitd (d := 73) rfl (fun h61 => ?_) (fun h61 => ?_)
       ·skip
        refine rg_off rfl rfl rfl rfl rfl ?_
        refine rg_off rfl rfl rfl rfl rfl ?_
        refine rg_off rfl rfl rfl rfl rfl ?_
        refine ry (y_pick rfl rfl rfl) rfl rfl ?_
        refine reg_nil ?_
        refine fn_next ?_
        refine cw_condt rfl ?_
        refine cw_seq ?_
        refine cw_reg ?_
        refine ry (y_ldb (i := 2) (cs := [_, _, _]) H60 rfl rfl kfreads2_4 rfl rfl) rfl rfl ?_
        refine reg_op (op_st (i := 3) (vs := [.int _ _, .int _ _, .slice _ _ _]) H60 rfl rfl rfl rfl rfl kfreads2_2 rfl rfl rfl) rfl rfl ?_
        rintro _ w62 H63
        refine ry (y_asg rfl rfl) rfl rfl ?_
        refine reg_nil ?_
        refine fn_next ?_
        refine cw_ret ?_
        refine fn_then_ret (fn_block_ret (fn_then_ret (fn_then_ret (fn_block_ret (fn_then_ret ?_)))))
        refine fn_retn (vs := [_, _]) rfl ⟨⟨_, rfl, load_agg (cs := [_, _, _]) kfreads2_4 rfl fun j v hv => by rw [Nat.zero_add]; exact H63.cell (i := 3) rfl hv⟩, rfl, trivial⟩ rfl ?_
        have hM : readM l ls = _ := (readM_G hr (by omega)).trans (readJ_size hJ (by omega) hrow hw (by omega))
        rw [hd] at hM; cases hM
       ·skip
        refine rgy (y_fa rfl rfl kfreads2_14 rfl) rfl rfl rfl rfl ?_
        refine rgy (y_ld rfl rfl kfreads2_16 (H60.cell (i := 1) rfl rfl)) rfl rfl rfl rfl ?_
        refine rgy (y_gtr rfl rfl rfl) rfl rfl rfl rfl ?_
        refine ry (y_pick rfl rfl rfl) rfl rfl ?_
        refine reg_nil ?_
        refine fn_next ?_
        refine cw_condd rfl (fun h64 => ?_) (fun h64 => ?_)
        ·skip
         refine cw_seq ?_
         refine cw_reg ?_
         refine ry (y_ldb (i := 2) (cs := [_, _, _]) H60 rfl rfl kfreads2_4 rfl rfl) rfl rfl ?_
         refine reg_op (op_st (i := 3) (vs := [.int _ _, .int _ _, .slice _ _ _]) H60 rfl rfl rfl rfl rfl kfreads2_2 rfl rfl rfl) rfl rfl ?_
         rintro _ w65 H66
         refine ry (y_asg rfl rfl) rfl rfl ?_
         refine reg_nil ?_
         refine fn_next ?_
         refine cw_ret ?_
         refine fn_then_ret (fn_block_ret (fn_then_ret (fn_then_ret (fn_block_ret (fn_then_ret ?_)))))
         refine fn_retn (vs := [_, _]) rfl ⟨⟨_, rfl, load_agg (cs := [_, _, _]) kfreads2_4 rfl fun j v hv => by rw [Nat.zero_add]; exact H66.cell (i := 3) rfl hv⟩, rfl, trivial⟩ rfl ?_
         have hM : readM l ls = _ := (readM_G hr (by omega)).trans (readJ_size hJ (by omega) hrow hw (by omega))
         rw [hd] at hM; cases hM
        ·skip
         refine cw_skip ?_
         refine fn_next ?_
         refine cw_seq ?_
         refine cw_reg ?_
         refine ry (y_mov rfl rfl) rfl rfl ?_
         refine ry (y_len rfl Try.underlying60 rfl) rfl rfl ?_
         refine ry (y_fa rfl rfl kfreads2_14 rfl) rfl rfl ?_
         refine ry (y_ld rfl rfl kfreads2_16 (H60.cell (i := 1) rfl rfl)) rfl rfl ?_
         refine ry (y_neq rfl rfl rfl) rfl rfl ?_
         refine reg_nil ?_
         refine fn_next ?_
         refine cw_condd rfl (fun h67 => ?_) (fun h67 => ?_)
         ·skip
          refine cw_seq ?_
          refine cw_reg ?_
          refine ry (y_ldb (i := 2) (cs := [_, _, _]) H60 rfl rfl kfreads2_4 rfl rfl) rfl rfl ?_
          refine reg_op (op_st (i := 3) (vs := [.int _ _, .int _ _, .slice _ _ _]) H60 rfl rfl rfl rfl rfl kfreads2_2 rfl rfl rfl) rfl rfl ?_
          rintro _ w68 H69
          refine ry (y_asg rfl rfl) rfl rfl ?_
          refine reg_nil ?_
          refine fn_next ?_
          refine cw_ret ?_
          refine fn_block_ret (fn_then_ret (fn_then_ret (fn_block_ret (fn_then_ret ?_))))
          refine fn_retn (vs := [_, _]) rfl ⟨⟨_, rfl, load_agg (cs := [_, _, _]) kfreads2_4 rfl fun j v hv => by rw [Nat.zero_add]; exact H69.cell (i := 3) rfl hv⟩, rfl, trivial⟩ rfl ?_
          have hM : readM l ls = _ := (readM_G hr (by omega)).trans (readJ_form hJ (by omega) hrow hw (by omega) (by omega))
          rw [hd] at hM; cases hM
         ·skip
          refine cw_skip ?_
          refine fn_block ?_
          refine fn_next ?_
          refine cw_reg ?_
          refine ry (y_mov rfl rfl) rfl rfl ?_
          refine ry (y_add rfl rfl rfl (wi (by omega))) rfl rfl ?_
          refine ry (y_asg rfl rfl) rfl rfl ?_
          refine reg_nil ?_
          refine fn_roundJ ⟨y + 1, (rcs (ls.getD y [])).length, _, tot, _, rfl, (H60.pick (m := [_, _, _, _]) [0, 1, 2, 3] rfl (by decide)), by omega, by rw [htot]; exact readJ_next hR hJ (by omega) hrow hw (by omega) (by omega), rfl⟩ ⟨rfl, trivial⟩ (by omega) (by repeat (first | exact kp_refl | refine kp_app rfl rfl ?_ | refine kp_cons rfl ?_)) rfl
      ·skip
       have hw : a = if y = 0 then dn.length else a := by rw [if_neg (by omega)]
       refine cw_skip ?_
       refine fn_next ?_
       refine cw_seq ?_
       refine cw_seq ?_
       refine cw_reg ?_
       refine ry (y_fa rfl rfl kfreads2_14 rfl) rfl rfl ?_
       refine ry (y_ld rfl rfl kfreads2_16 (H37.cell (i := 1) rfl rfl)) rfl rfl ?_
       refine ry (y_lss rfl rfl rfl) rfl rfl ?_
       refine ry (y_mov rfl rfl) rfl rfl ?_
       refine rg_splitd (d := 73) rfl (fun h70 => ?_) (fun h70 => ?_)
       ·skip
        refine rg_off rfl rfl rfl rfl rfl ?_
        refine rg_off rfl rfl rfl rfl rfl ?_
        refine rg_off rfl rfl rfl rfl rfl ?_
        refine ry (y_pick rfl rfl rfl) rfl rfl ?_
        refine reg_nil ?_
        refine fn_next ?_
        refine cw_condt rfl ?_
        refine cw_seq ?_
        refine cw_reg ?_
        refine ry (y_ldb (i := 2) (cs := [_, _, _]) H37 rfl rfl kfreads2_4 rfl rfl) rfl rfl ?_
        refine reg_op (op_st (i := 3) (vs := [.int _ _, .int _ _, .slice _ _ _]) H37 rfl rfl rfl rfl rfl kfreads2_2 rfl rfl rfl) rfl rfl ?_
        rintro _ w71 H72
        refine ry (y_asg rfl rfl) rfl rfl ?_
        refine reg_nil ?_
        refine fn_next ?_
        refine cw_ret ?_
        refine fn_then_ret (fn_block_ret (fn_then_ret (fn_then_ret (fn_block_ret (fn_then_ret ?_)))))
        refine fn_retn (vs := [_, _]) rfl ⟨⟨_, rfl, load_agg (cs := [_, _, _]) kfreads2_4 rfl fun j v hv => by rw [Nat.zero_add]; exact H72.cell (i := 3) rfl hv⟩, rfl, trivial⟩ rfl ?_
        have hM : readM l ls = _ := (readM_G hr (by omega)).trans (readJ_size hJ (by omega) hrow hw (by omega))
        rw [hd] at hM; cases hM
       ·skip
        refine rgy (y_fa rfl rfl kfreads2_14 rfl) rfl rfl rfl rfl ?_
        refine rgy (y_ld rfl rfl kfreads2_16 (H37.cell (i := 1) rfl rfl)) rfl rfl rfl rfl ?_
        refine rgy (y_gtr rfl rfl rfl) rfl rfl rfl rfl ?_
        refine ry (y_pick rfl rfl rfl) rfl rfl ?_
        refine reg_nil ?_
        refine fn_next ?_
        refine cw_condd rfl (fun h73 => ?_) (fun h73 => ?_)
        ·skip
         refine cw_seq ?_
         refine cw_reg ?_
         refine ry (y_ldb (i := 2) (cs := [_, _, _]) H37 rfl rfl kfreads2_4 rfl rfl) rfl rfl ?_
         refine reg_op (op_st (i := 3) (vs := [.int _ _, .int _ _, .slice _ _ _]) H37 rfl rfl rfl rfl rfl kfreads2_2 rfl rfl rfl) rfl rfl ?_
         rintro _ w74 H75
         refine ry (y_asg rfl rfl) rfl rfl ?_
         refine reg_nil ?_
         refine fn_next ?_
         refine cw_ret ?_
         refine fn_then_ret (fn_block_ret (fn_then_ret (fn_then_ret (fn_block_ret (fn_then_ret ?_)))))
         refine fn_retn (vs := [_, _]) rfl ⟨⟨_, rfl, load_agg (cs := [_, _, _]) kfreads2_4 rfl fun j v hv => by rw [Nat.zero_add]; exact H75.cell (i := 3) rfl hv⟩, rfl, trivial⟩ rfl ?_
         have hM : readM l ls = _ := (readM_G hr (by omega)).trans (readJ_size hJ (by omega) hrow hw (by omega))
         rw [hd] at hM; cases hM
        ·skip
         refine cw_skip ?_
         refine fn_next ?_
         refine cw_seq ?_
         refine cw_reg ?_
         refine ry (y_mov rfl rfl) rfl rfl ?_
         refine ry (y_len rfl Try.underlying60 rfl) rfl rfl ?_
         refine ry (y_fa rfl rfl kfreads2_14 rfl) rfl rfl ?_
         refine ry (y_ld rfl rfl kfreads2_16 (H37.cell (i := 1) rfl rfl)) rfl rfl ?_
         refine ry (y_neq rfl rfl rfl) rfl rfl ?_
         refine reg_nil ?_
         refine fn_next ?_
         refine cw_condd rfl (fun h76 => ?_) (fun h76 => ?_)
         ·skip
          refine cw_seq ?_
          refine cw_reg ?_
          refine ry (y_ldb (i := 2) (cs := [_, _, _]) H37 rfl rfl kfreads2_4 rfl rfl) rfl rfl ?_
          refine reg_op (op_st (i := 3) (vs := [.int _ _, .int _ _, .slice _ _ _]) H37 rfl rfl rfl rfl rfl kfreads2_2 rfl rfl rfl) rfl rfl ?_
          rintro _ w77 H78
          refine ry (y_asg rfl rfl) rfl rfl ?_
          refine reg_nil ?_
          refine fn_next ?_
          refine cw_ret ?_
          refine fn_block_ret (fn_then_ret (fn_then_ret (fn_block_ret (fn_then_ret ?_))))
          refine fn_retn (vs := [_, _]) rfl ⟨⟨_, rfl, load_agg (cs := [_, _, _]) kfreads2_4 rfl fun j v hv => by rw [Nat.zero_add]; exact H78.cell (i := 3) rfl hv⟩, rfl, trivial⟩ rfl ?_
          have hM : readM l ls = _ := (readM_G hr (by omega)).trans (readJ_form hJ (by omega) hrow hw (by omega) (by omega))
          rw [hd] at hM; cases hM
         ·skip
          refine cw_skip ?_
          refine fn_block ?_
          refine fn_next ?_
          refine cw_reg ?_
          refine ry (y_mov rfl rfl) rfl rfl ?_
          refine ry (y_add rfl rfl rfl (wi (by omega))) rfl rfl ?_
          refine ry (y_asg rfl rfl) rfl rfl ?_
          refine reg_nil ?_
          refine fn_roundJ ⟨y + 1, a, _, tot, _, rfl, (H37.pick (m := [_, _, _, _]) [0, 1, 2, 3] rfl (by decide)), by omega, by rw [htot]; exact readJ_next hR hJ (by omega) hrow hw (by omega) (by omega), rfl⟩ ⟨rfl, trivial⟩ (by omega) (by repeat (first | exact kp_refl | refine kp_app rfl rfl ?_ | refine kp_cons rfl ?_)) rfl
    ·skip
     obtain rfl : nl = y := by omega
     refine cw_exit ?_
     refine fn_then_exit (fn_then_exit (fn_block_exit ?_))
     refine fn_next ?_
     refine cw_seq ?_
     refine cw_reg ?_
     refine ry (y_ldb (i := 1) (cs := [_, _, _]) H28 rfl rfl kfreads2_4 rfl rfl) rfl rfl ?_
     refine reg_op (op_st (i := 3) (vs := [.int _ _, .int _ _, .slice _ _ _]) H28 rfl rfl rfl rfl rfl kfreads2_2 rfl rfl rfl) rfl rfl ?_
     rintro _ w79 H80
     refine ry (y_asg rfl rfl) rfl rfl ?_
     refine reg_nil ?_
     refine fn_next ?_
     refine cw_ret ?_
     refine fn_retn (vs := [_, _]) rfl ⟨⟨_, rfl, load_agg (cs := [_, _, _]) kfreads2_4 rfl fun j v hv => by rw [Nat.zero_add]; exact H80.cell (i := 3) rfl hv⟩, rfl, trivial⟩ rfl ?_
     have hM : readM l ls = _ := (readM_G hr (by omega)).trans (readJ_end hJ (by omega))
     rw [hd] at hM; cases hM
     have hle : acc.length = a * nl := hJ.2.1
     rw [hle] at H80
     exact ⟨_, _, by rw [hle], (H80.pick (m := [_]) [0] rfl (by decide))⟩

end Go.Proofs.Ytgkkbeomhkggjaa
