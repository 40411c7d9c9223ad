/- Layer 34: lines of signs, as a grid; the document's answer. -/
import Derived.Test.YtgkkbeomhkggjaaDoorChart1
import Derived.Test.YtgkkbeomhkggjaaDoorRef34
import Derived.Test.YtgkkbeomhkggjaaDoorRef10
set_option linter.unusedVariables false
set_option linter.unusedSimpArgs false
namespace Go.Proofs.YtgkkbeomhkggjaaDoor
open Go Go.RowKit
theorem kfreads1_1 : callB Tryd.prog 63 = true := by kernel_rfl
theorem kfreads1_2 : elB Tryd.prog 52 1 = true := by kernel_rfl
theorem kfreads1_3 : oneB Tryd.prog 9 = true := by kernel_rfl
theorem kfreads1_4 : callB Tryd.prog 69 = true := by kernel_rfl
theorem kfreads1_5 : (Tryd.prog.info? 2).map (fun i => (i.zero.map (·.cells.toList), i.size, i.bytes)) = some (some [(.int .i64 0)], 1, 8) := by kernel_rfl
theorem kfreads1_6 : callB Tryd.prog 25 = true := by kernel_rfl
theorem readJ_bd {l : List Bd} {ls : List (List Int)} {y w : Nat} {acc : List Int} (h : readJ l ls y w acc) (hy : y ≤ 1024) : acc.length ≤ 1048576 := by
  rw [h.2.1]
  rcases Nat.eq_zero_or_pos y with q | q
  · subst q; simp
  · exact Nat.le_trans (Nat.mul_le_mul (h.2.2.2 q).2 hy) (by decide)
theorem readM_R {l : List Bd} {ls : List (List Int)} (h : rgtB l = false) : readM l ls = (13, 0, []) := by unfold readM; rw [if_pos h]
theorem readM_S {l : List Bd} {ls : List (List Int)} (h : rgtB l = true) (h1 : ls.length < 1 ∨ 1024 < ls.length) : readM l ls = (3, 0, []) := by unfold readM; rw [if_neg (by rw [h]; simp), if_pos h1]
theorem readM_G {l : List Bd} {ls : List (List Int)} (h : rgtB l = true) (h1 : ¬ (ls.length < 1 ∨ 1024 < ls.length)) : readM l ls = readG l ls 0 0 [] := by unfold readM; rw [if_neg (by rw [h]; simp), if_neg h1]
theorem fromC_fine {a h : Nat} {L : List Int} (s : SzG a h) (hl : L.length = a * h) (hB : AllB L) : fromC a h L = 0 := by
  obtain ⟨s1, s2, s3, s4⟩ := s
  unfold fromC
  rw [if_pos ⟨by omega, by omega, by omega, by omega⟩, if_pos (by rw [hl]; exact Int.natCast_mul a h), if_pos hB]
theorem getD_len {ls : List (List Int)} {m : Nat} (h : ∀ s ∈ ls, s.length ≤ m) {i : Nat} (hi : i < ls.length) : (ls.getD i []).length ≤ m := by
  have : ls.getD i [] ∈ ls := by simp [List.getD, hi]
  exact h _ this
theorem rcs_at {s : List Int} (hB : Byt s) {k : Nat} (hk : k < (rcs s).length) : Byt ((rcs s).getD k []) := by
  have : (rcs s).getD k [] ∈ rcs s := by simp [List.getD, hk]
  exact rcs_byt hB _ this

set_option maxRecDepth 100000 in
set_option maxHeartbeats 2000000 in
theorem readNo (LA : Option Addr) (nl lc : Nat) (ls : List (List Int)) (A : Option Addr) (n c : Nat) (l : List Bd) (e : Int) (z : Nat × List Int) (w : World) (hlr : Rd w LA (strs ls)) (hll : ls.length = nl) (hnl : nl ≤ 1000000) (hBs : Byts ls) (hsz : ∀ s ∈ ls, s.length ≤ 1000000) (hb : Rd w A (bcells l)) (hl : l.length = n) (hn : n ≤ 100000000) (hcap : n ≤ c) (hd : readM l ls = (e, z)) (he : e ≠ 0) :
    Ret Tryd.prog 40 [.slice LA nl lc, .slice A n c] w (fun v w' => v = .tuple #[.pointer none, .int .i64 e] ∧ Below w.heap.size w w') := by
 refine ret_enter Tryd.func40 rfl rfl rfl ?_
 have H0 := HS.start w
 refine cw_seq ?_
 refine cw_reg ?_
 refine ry (y_asg rfl rfl) rfl rfl ?_
 refine ry (y_asg rfl rfl) rfl rfl ?_
 refine reg_nil ?_
 refine fn_next ?_
 refine cw_seq ?_
 refine cw_block ?_
 refine cw_seq ?_
 refine cw_reg ?_
 refine ry (y_mov rfl rfl) rfl rfl ?_
 refine reg_op (op_call (tintRight A n c l _ (hb.below H0.base) hl hn hcap) rfl kfreads1_1 ⟨rfl, trivial⟩) rfl rfl ?_
 rintro _ w2 ⟨rfl, e1⟩
 have H3 := H0.ext e1
 refine ry (y_not rfl rfl) rfl rfl ?_
 refine ry (y_asg rfl rfl) rfl rfl ?_
 refine reg_nil ?_
 refine fn_next ?_
 refine cw_cond rfl (fun h4 => ?_) (fun h4 => ?_)
 ·skip
  have hr : rgtB l = false := by simpa using h4
  refine cw_seq ?_
  refine cw_reg ?_
  refine ry (y_asg rfl rfl) rfl rfl ?_
  refine ry (y_asg rfl rfl) rfl rfl ?_
  refine reg_nil ?_
  refine fn_next ?_
  refine cw_ret ?_
  refine fn_block_ret (fn_then_ret ?_)
  refine fn_retn (vs := [_, _]) rfl ⟨rfl, rfl, trivial⟩ rfl ?_
  have hM : readM l ls = _ := readM_R hr
  rw [hd] at hM; cases hM
  exact ⟨rfl, H3.base⟩
 ·skip
  have hr : rgtB l = true := by simpa using h4
  have hR := (rgtB_iff l).1 hr
  refine cw_seq ?_
  refine cw_reg ?_
  refine ry (y_mov rfl rfl) rfl rfl ?_
  refine ry (y_len rfl Tryd.underlying52 rfl) rfl rfl ?_
  refine ry (y_lss rfl rfl rfl) rfl rfl ?_
  refine ry (y_mov rfl rfl) rfl rfl ?_
  refine rg_splitd (d := 20) rfl (fun h5 => ?_) (fun h5 => ?_)
  ·skip
   refine rg_off rfl rfl rfl rfl rfl ?_
   refine rg_off rfl rfl rfl rfl rfl ?_
   refine rg_off rfl rfl rfl rfl rfl ?_
   refine ry (y_pick rfl rfl rfl) rfl rfl ?_
   refine ry (y_asg rfl rfl) rfl rfl ?_
   refine reg_nil ?_
   refine fn_next ?_
   refine cw_condt rfl ?_
   refine cw_seq ?_
   refine cw_reg ?_
   refine ry (y_asg rfl rfl) rfl rfl ?_
   refine ry (y_asg rfl rfl) rfl rfl ?_
   refine reg_nil ?_
   refine fn_next ?_
   refine cw_ret ?_
   refine fn_block_ret (fn_then_ret ?_)
   refine fn_retn (vs := [_, _]) rfl ⟨rfl, rfl, trivial⟩ rfl ?_
   have hM : readM l ls = _ := readM_S hr (by omega)
   rw [hd] at hM; cases hM
   exact ⟨rfl, H3.base⟩
  ·skip
   refine rgy (y_mov rfl rfl) rfl rfl rfl rfl ?_
   refine rgy (y_len rfl Tryd.underlying52 rfl) rfl rfl rfl rfl ?_
   refine rgy (y_gtr rfl rfl rfl) rfl rfl rfl rfl ?_
   refine ry (y_pick rfl rfl rfl) rfl rfl ?_
   refine ry (y_asg rfl rfl) rfl rfl ?_
   refine reg_nil ?_
   refine fn_next ?_
   refine cw_condd rfl (fun h6 => ?_) (fun h6 => ?_)
   ·skip
    refine cw_seq ?_
    refine cw_reg ?_
    refine ry (y_asg rfl rfl) rfl rfl ?_
    refine ry (y_asg rfl rfl) rfl rfl ?_
    refine reg_nil ?_
    refine fn_next ?_
    refine cw_ret ?_
    refine fn_block_ret (fn_then_ret ?_)
    refine fn_retn (vs := [_, _]) rfl ⟨rfl, rfl, trivial⟩ rfl ?_
    have hM : readM l ls = _ := readM_S hr (by omega)
    rw [hd] at hM; cases hM
    exact ⟨rfl, H3.base⟩
   ·skip
    refine cw_skip ?_
    refine fn_block ?_
    refine fn_next ?_
    refine cw_seq ?_
    refine cw_reg ?_
    refine ry (y_asg rfl rfl) rfl rfl ?_
    refine reg_nil ?_
    refine fn_next ?_
    refine cw_seq ?_
    refine cw_reg ?_
    refine ry (y_asg rfl rfl) rfl rfl ?_
    refine reg_nil ?_
    refine fn_next ?_
    refine cw_seq ?_
    refine cw_seq ?_
    refine cw_reg ?_
    refine ry (y_mov rfl rfl) rfl rfl ?_
    refine ry (y_len rfl Tryd.underlying52 rfl) rfl rfl ?_
    refine ry (y_mov rfl rfl) rfl rfl ?_
    refine reg_nil ?_
    refine fn_next ?_
    refine cw_block ?_
    have H7 := H3.nilrow 2 1
    refine cw_loopJ [4, 5, 6, 7, 8, 9, 10, 11, 27, 28, 29, 30, 31, 32, 33, 34, 35, 36, 37, 38, 39, 40, 41, 42, 43, 44, 45, 46, 47, 48, 49, 50, 51, 52, 53, 54, 55, 56, 57, 58, 59, 60, 61] (fun M wl ml => ∃ (y a c2 : Nat) (acc : List Int) (A1 : Option Addr), M = [(6, .slice A1 acc.length c2), (7, .int .i64 (a : Int)), (27, .int .i64 (y : Int))] ∧ HS w wl [Ob.row A1 acc.length c2 (vi .i64 acc) 2 1] ∧ (y ≤ nl) ∧ (readJ l ls y a acc) ∧ ml = nl + 1 - y) ⟨0, 0, 0, [], none, rfl, H7, Nat.zero_le _, readJ_init, rfl⟩ ⟨rfl, rfl, rfl, trivial⟩ ?_
    rintro M w8 m10 ⟨y, a, c2, acc, A1, rfl, H9, hyl, hJ, rfl⟩
    have hbd := readJ_bd hJ (by omega)
    refine cw_seq ?_
    refine cw_reg ?_
    refine ry (y_lss rfl rfl rfl) rfl rfl ?_
    refine reg_nil ?_
    refine fn_next ?_
    refine cw_seq ?_
    refine cw_condd rfl (fun h11 => ?_) (fun h11 => ?_)
    ·skip
     have gs := strs_get (ls := ls) (i := y) (by omega)
     refine cw_skip ?_
     refine fn_next ?_
     refine cw_seq ?_
     refine cw_block ?_
     refine cw_seq ?_
     refine cw_reg ?_
     refine ry (y_mov rfl rfl) rfl rfl ?_
     refine ry (y_iar (hlr.below H9.base) rfl rfl rfl kfreads1_2 (rfl) (by omega) (Nat.mul_one _) (gs)) rfl rfl ?_
     refine ry (y_ldr (hlr.below H9.base) rfl rfl kfreads1_3 (gs)) rfl rfl ?_
     refine ry (y_asg rfl rfl) rfl rfl ?_
     refine ry (y_asg rfl rfl) rfl rfl ?_
     refine reg_nil ?_
     refine fn_next ?_
     refine cw_seq ?_
     rcases hrow : rowM l (ls.getD y []) with _ | r
     ·skip
      refine cw_reg ?_
      refine ry (y_mov rfl rfl) rfl rfl ?_
      refine ry (y_mov rfl rfl) rfl rfl ?_
      refine reg_op (op_call (rowNo A n c l (ls.getD y []) _ hr (hb.below H9.base) hl hn hcap (hBs.at_ (by omega)) (getD_len hsz (by omega)) hrow) rfl kfreads1_4 ⟨rfl, rfl, trivial⟩) rfl rfl ?_
      rintro _ w13 ⟨rfl, e12⟩
      have H14 := H9.ext e12
      refine ry (y_mov rfl rfl) rfl rfl ?_
      refine ry (y_ext rfl rfl rfl) rfl rfl ?_
      refine ry (y_ext rfl rfl rfl) rfl rfl ?_
      refine ry (y_asg rfl rfl) rfl rfl ?_
      refine ry (y_asg rfl rfl) rfl rfl ?_
      refine reg_nil ?_
      refine fn_next ?_
      refine cw_seq ?_
      refine cw_seq ?_
      refine cw_reg ?_
      refine ry (y_mov rfl rfl) rfl rfl ?_
      refine ry (y_eql rfl rfl rfl) rfl rfl ?_
      refine reg_nil ?_
      refine fn_next ?_
      refine cw_condd rfl (fun h15 => ?_) (fun h15 => ?_)
      ·skip
       refine cw_reg ?_
       refine ry (y_mov rfl rfl) rfl rfl ?_
       refine ry (y_len rfl Tryd.underlying22 rfl) rfl rfl ?_
       refine ry (y_asg rfl rfl) rfl rfl ?_
       refine reg_nil ?_
       refine fn_next ?_
       refine cw_seq ?_
       refine cw_block ?_
       refine cw_seq ?_
       refine cw_reg ?_
       refine ry (y_mov rfl rfl) rfl rfl ?_
       refine ry (y_neq rfl rfl rfl) rfl rfl ?_
       refine ry (y_asg rfl rfl) rfl rfl ?_
       refine reg_nil ?_
       refine fn_next ?_
       refine cw_condt rfl ?_
       refine cw_seq ?_
       refine cw_reg ?_
       refine ry (y_mov rfl rfl) rfl rfl ?_
       refine ry (y_asg rfl rfl) rfl rfl ?_
       refine ry (y_asg rfl rfl) rfl rfl ?_
       refine reg_nil ?_
       refine fn_next ?_
       refine cw_ret ?_
       refine fn_block_ret (fn_then_ret (fn_block_ret (fn_then_ret (fn_then_ret (fn_block_ret (fn_then_ret ?_))))))
       refine fn_retn (vs := [_, _]) rfl ⟨rfl, rfl, trivial⟩ rfl ?_
       have hM : readM l ls = _ := (readM_G hr (by omega)).trans (readJ_none hJ (by omega) hrow)
       rw [hd] at hM; cases hM
       exact ⟨rfl, H14.base⟩
      ·skip
       refine cw_skip ?_
       refine fn_next ?_
       refine cw_seq ?_
       refine cw_block ?_
       refine cw_seq ?_
       refine cw_reg ?_
       refine ry (y_mov rfl rfl) rfl rfl ?_
       refine ry (y_neq rfl rfl rfl) rfl rfl ?_
       refine ry (y_asg rfl rfl) rfl rfl ?_
       refine reg_nil ?_
       refine fn_next ?_
       refine cw_condt rfl ?_
       refine cw_seq ?_
       refine cw_reg ?_
       refine ry (y_mov rfl rfl) rfl rfl ?_
       refine ry (y_asg rfl rfl) rfl rfl ?_
       refine ry (y_asg rfl rfl) rfl rfl ?_
       refine reg_nil ?_
       refine fn_next ?_
       refine cw_ret ?_
       refine fn_block_ret (fn_then_ret (fn_block_ret (fn_then_ret (fn_then_ret (fn_block_ret (fn_then_ret ?_))))))
       refine fn_retn (vs := [_, _]) rfl ⟨rfl, rfl, trivial⟩ rfl ?_
       have hM : readM l ls = _ := (readM_G hr (by omega)).trans (readJ_none hJ (by omega) hrow)
       rw [hd] at hM; cases hM
       exact ⟨rfl, H14.base⟩
     ·skip
      have hrl := rowM_len hrow
      have hsy := getD_len hsz (i := y) (by omega)
      refine cw_reg ?_
      refine ry (y_mov rfl rfl) rfl rfl ?_
      refine ry (y_mov rfl rfl) rfl rfl ?_
      refine reg_op (op_call (rowOk A n c l (ls.getD y []) r _ hr (hb.below H9.base) hl hn hcap (hBs.at_ (by omega)) (getD_len hsz (by omega)) hrow) rfl kfreads1_4 ⟨rfl, rfl, trivial⟩) rfl rfl ?_
      rintro _ w17 ⟨A19, c20, rfl, k16⟩
      have H18 := H9.call k16
      refine ry (y_mov rfl rfl) rfl rfl ?_
      refine ry (y_ext rfl rfl rfl) rfl rfl ?_
      refine ry (y_ext rfl rfl rfl) rfl rfl ?_
      refine ry (y_asg rfl rfl) rfl rfl ?_
      refine ry (y_asg rfl rfl) rfl rfl ?_
      refine reg_nil ?_
      refine fn_next ?_
      refine cw_seq ?_
      refine cw_seq ?_
      refine cw_reg ?_
      refine ry (y_mov rfl rfl) rfl rfl ?_
      refine ry (y_eql rfl rfl rfl) rfl rfl ?_
      refine reg_nil ?_
      refine fn_next ?_
      refine cw_condd rfl (fun h21 => ?_) (fun h21 => ?_)
      ·skip
       have hw : r.length = if y = 0 then r.length else a := by rw [if_pos (by omega)]
       refine cw_reg ?_
       refine ry (y_mov rfl rfl) rfl rfl ?_
       refine ry (y_len rfl Tryd.underlying22 rfl) rfl rfl ?_
       refine ry (y_asg rfl rfl) rfl rfl ?_
       refine reg_nil ?_
       refine fn_next ?_
       refine cw_seq ?_
       refine cw_block ?_
       refine cw_seq ?_
       refine cw_reg ?_
       refine ry (y_mov rfl rfl) rfl rfl ?_
       refine ry (y_neq rfl rfl rfl) rfl rfl ?_
       refine ry (y_asg rfl rfl) rfl rfl ?_
       refine reg_nil ?_
       refine fn_next ?_
       refine cw_condf rfl ?_
       refine cw_seq ?_
       refine cw_reg ?_
       refine ry (y_mov rfl rfl) rfl rfl ?_
       refine ry (y_lss rfl rfl rfl) rfl rfl ?_
       refine ry (y_mov rfl rfl) rfl rfl ?_
       refine rg_splitd (d := 49) rfl (fun h22 => ?_) (fun h22 => ?_)
       ·skip
        refine rg_off rfl rfl rfl rfl rfl ?_
        refine rg_off rfl rfl rfl rfl rfl ?_
        refine ry (y_pick rfl rfl rfl) rfl rfl ?_
        refine ry (y_asg rfl rfl) rfl rfl ?_
        refine reg_nil ?_
        refine fn_next ?_
        refine cw_condt rfl ?_
        refine cw_seq ?_
        refine cw_reg ?_
        refine ry (y_asg rfl rfl) rfl rfl ?_
        refine ry (y_asg rfl rfl) rfl rfl ?_
        refine reg_nil ?_
        refine fn_next ?_
        refine cw_ret ?_
        refine fn_block_ret (fn_then_ret (fn_block_ret (fn_then_ret (fn_then_ret (fn_block_ret (fn_then_ret ?_))))))
        refine fn_retn (vs := [_, _]) rfl ⟨rfl, rfl, trivial⟩ rfl ?_
        have hM : readM l ls = _ := (readM_G hr (by omega)).trans (readJ_size hJ (by omega) hrow hw (by omega))
        rw [hd] at hM; cases hM
        exact ⟨rfl, H18.base⟩
       ·skip
        refine rgy (y_mov rfl rfl) rfl rfl rfl rfl ?_
        refine rgy (y_gtr rfl rfl rfl) rfl rfl rfl rfl ?_
        refine ry (y_pick rfl rfl rfl) rfl rfl ?_
        refine ry (y_asg rfl rfl) rfl rfl ?_
        refine reg_nil ?_
        refine fn_next ?_
        refine cw_condd rfl (fun h23 => ?_) (fun h23 => ?_)
        ·skip
         refine cw_seq ?_
         refine cw_reg ?_
         refine ry (y_asg rfl rfl) rfl rfl ?_
         refine ry (y_asg rfl rfl) rfl rfl ?_
         refine reg_nil ?_
         refine fn_next ?_
         refine cw_ret ?_
         refine fn_block_ret (fn_then_ret (fn_block_ret (fn_then_ret (fn_then_ret (fn_block_ret (fn_then_ret ?_))))))
         refine fn_retn (vs := [_, _]) rfl ⟨rfl, rfl, trivial⟩ rfl ?_
         have hM : readM l ls = _ := (readM_G hr (by omega)).trans (readJ_size hJ (by omega) hrow hw (by omega))
         rw [hd] at hM; cases hM
         exact ⟨rfl, H18.base⟩
        ·skip
         refine cw_seq ?_
         refine cw_reg ?_
         refine ry (y_mov rfl rfl) rfl rfl ?_
         refine ry (y_len rfl Tryd.underlying22 rfl) rfl rfl ?_
         refine ry (y_mov rfl rfl) rfl rfl ?_
         refine ry (y_neq rfl rfl rfl) rfl rfl ?_
         refine ry (y_asg rfl rfl) rfl rfl ?_
         refine reg_nil ?_
         refine fn_next ?_
         refine cw_condd rfl (fun h24 => ?_) (fun h24 => ?_)
         ·skip
          refine cw_seq ?_
          refine cw_reg ?_
          refine ry (y_asg rfl rfl) rfl rfl ?_
          refine ry (y_asg rfl rfl) rfl rfl ?_
          refine reg_nil ?_
          refine fn_next ?_
          refine cw_ret ?_
          refine fn_block_ret (fn_then_ret (fn_block_ret (fn_then_ret (fn_then_ret (fn_block_ret (fn_then_ret ?_))))))
          refine fn_retn (vs := [_, _]) rfl ⟨rfl, rfl, trivial⟩ rfl ?_
          have hM : readM l ls = _ := (readM_G hr (by omega)).trans (readJ_form hJ (by omega) hrow hw (by omega) (by omega))
          rw [hd] at hM; cases hM
          exact ⟨rfl, H18.base⟩
         ·skip
          refine cw_skip ?_
          refine fn_block ?_
          refine fn_next ?_
          refine cw_reg ?_
          refine ry (y_mov rfl rfl) rfl rfl ?_
          refine ry (y_mov rfl rfl) rfl rfl ?_
          refine reg_op (op_app (i := 1) H18 rfl rfl rfl rfl (H18.rd (i := 0) rfl) (by rw [vi_len, Nat.mul_one]) (vi_one) Tryd.underlying22 kfreads1_5 rfl rfl (by unfold maxLen; omega) (by omega)) rfl rfl ?_
          rintro _ w27 ⟨A25, c26, rfl, H28⟩
          refine ry (y_asg rfl rfl) rfl rfl ?_
          refine reg_nil ?_
          refine fn_block ?_
          refine fn_next ?_
          refine cw_reg ?_
          refine ry (y_add rfl rfl rfl (wi (by omega))) rfl rfl ?_
          refine ry (y_mov rfl rfl) rfl rfl ?_
          refine reg_nil ?_
          have hpl : acc.length + r.length = (acc ++ r).length := by rw [List.length_append]
          rw [← vi_app, hpl] at H28
          refine fn_roundJ ⟨y + 1, r.length, _, acc ++ r, _, rfl, (H28.pick (m := [_]) [1] rfl (by decide)), by omega, readJ_next hR hJ (by omega) hrow hw (by omega) (by omega), rfl⟩ ⟨by rw [← hpl]; rfl, rfl, rfl, trivial⟩ (by omega) (by repeat (first | exact kp_refl | refine kp_app rfl rfl ?_ | refine kp_cons rfl ?_)) rfl
      ·skip
       have hw : a = if y = 0 then r.length else a := by rw [if_neg (by omega)]
       refine cw_skip ?_
       refine fn_next ?_
       refine cw_seq ?_
       refine cw_block ?_
       refine cw_seq ?_
       refine cw_reg ?_
       refine ry (y_mov rfl rfl) rfl rfl ?_
       refine ry (y_neq rfl rfl rfl) rfl rfl ?_
       refine ry (y_asg rfl rfl) rfl rfl ?_
       refine reg_nil ?_
       refine fn_next ?_
       refine cw_condf rfl ?_
       refine cw_seq ?_
       refine cw_reg ?_
       refine ry (y_mov rfl rfl) rfl rfl ?_
       refine ry (y_lss rfl rfl rfl) rfl rfl ?_
       refine ry (y_mov rfl rfl) rfl rfl ?_
       refine rg_splitd (d := 49) rfl (fun h29 => ?_) (fun h29 => ?_)
       ·skip
        refine rg_off rfl rfl rfl rfl rfl ?_
        refine rg_off rfl rfl rfl rfl rfl ?_
        refine ry (y_pick rfl rfl rfl) rfl rfl ?_
        refine ry (y_asg rfl rfl) rfl rfl ?_
        refine reg_nil ?_
        refine fn_next ?_
        refine cw_condt rfl ?_
        refine cw_seq ?_
        refine cw_reg ?_
        refine ry (y_asg rfl rfl) rfl rfl ?_
        refine ry (y_asg rfl rfl) rfl rfl ?_
        refine reg_nil ?_
        refine fn_next ?_
        refine cw_ret ?_
        refine fn_block_ret (fn_then_ret (fn_block_ret (fn_then_ret (fn_then_ret (fn_block_ret (fn_then_ret ?_))))))
        refine fn_retn (vs := [_, _]) rfl ⟨rfl, rfl, trivial⟩ rfl ?_
        have hM : readM l ls = _ := (readM_G hr (by omega)).trans (readJ_size hJ (by omega) hrow hw (by omega))
        rw [hd] at hM; cases hM
        exact ⟨rfl, H18.base⟩
       ·skip
        refine rgy (y_mov rfl rfl) rfl rfl rfl rfl ?_
        refine rgy (y_gtr rfl rfl rfl) rfl rfl rfl rfl ?_
        refine ry (y_pick rfl rfl rfl) rfl rfl ?_
        refine ry (y_asg rfl rfl) rfl rfl ?_
        refine reg_nil ?_
        refine fn_next ?_
        refine cw_condd rfl (fun h30 => ?_) (fun h30 => ?_)
        ·skip
         refine cw_seq ?_
         refine cw_reg ?_
         refine ry (y_asg rfl rfl) rfl rfl ?_
         refine ry (y_asg rfl rfl) rfl rfl ?_
         refine reg_nil ?_
         refine fn_next ?_
         refine cw_ret ?_
         refine fn_block_ret (fn_then_ret (fn_block_ret (fn_then_ret (fn_then_ret (fn_block_ret (fn_then_ret ?_))))))
         refine fn_retn (vs := [_, _]) rfl ⟨rfl, rfl, trivial⟩ rfl ?_
         have hM : readM l ls = _ := (readM_G hr (by omega)).trans (readJ_size hJ (by omega) hrow hw (by omega))
         rw [hd] at hM; cases hM
         exact ⟨rfl, H18.base⟩
        ·skip
         refine cw_seq ?_
         refine cw_reg ?_
         refine ry (y_mov rfl rfl) rfl rfl ?_
         refine ry (y_len rfl Tryd.underlying22 rfl) rfl rfl ?_
         refine ry (y_mov rfl rfl) rfl rfl ?_
         refine ry (y_neq rfl rfl rfl) rfl rfl ?_
         refine ry (y_asg rfl rfl) rfl rfl ?_
         refine reg_nil ?_
         refine fn_next ?_
         refine cw_condd rfl (fun h31 => ?_) (fun h31 => ?_)
         ·skip
          refine cw_seq ?_
          refine cw_reg ?_
          refine ry (y_asg rfl rfl) rfl rfl ?_
          refine ry (y_asg rfl rfl) rfl rfl ?_
          refine reg_nil ?_
          refine fn_next ?_
          refine cw_ret ?_
          refine fn_block_ret (fn_then_ret (fn_block_ret (fn_then_ret (fn_then_ret (fn_block_ret (fn_then_ret ?_))))))
          refine fn_retn (vs := [_, _]) rfl ⟨rfl, rfl, trivial⟩ rfl ?_
          have hM : readM l ls = _ := (readM_G hr (by omega)).trans (readJ_form hJ (by omega) hrow hw (by omega) (by omega))
          rw [hd] at hM; cases hM
          exact ⟨rfl, H18.base⟩
         ·skip
          refine cw_skip ?_
          refine fn_block ?_
          refine fn_next ?_
          refine cw_reg ?_
          refine ry (y_mov rfl rfl) rfl rfl ?_
          refine ry (y_mov rfl rfl) rfl rfl ?_
          refine reg_op (op_app (i := 1) H18 rfl rfl rfl rfl (H18.rd (i := 0) rfl) (by rw [vi_len, Nat.mul_one]) (vi_one) Tryd.underlying22 kfreads1_5 rfl rfl (by unfold maxLen; omega) (by omega)) rfl rfl ?_
          rintro _ w34 ⟨A32, c33, rfl, H35⟩
          refine ry (y_asg rfl rfl) rfl rfl ?_
          refine reg_nil ?_
          refine fn_block ?_
          refine fn_next ?_
          refine cw_reg ?_
          refine ry (y_add rfl rfl rfl (wi (by omega))) rfl rfl ?_
          refine ry (y_mov rfl rfl) rfl rfl ?_
          refine reg_nil ?_
          have hpl : acc.length + r.length = (acc ++ r).length := by rw [List.length_append]
          rw [← vi_app, hpl] at H35
          refine fn_roundJ ⟨y + 1, a, _, acc ++ r, _, rfl, (H35.pick (m := [_]) [1] rfl (by decide)), by omega, readJ_next hR hJ (by omega) hrow hw (by omega) (by omega), rfl⟩ ⟨by rw [← hpl]; rfl, rfl, rfl, trivial⟩ (by omega) (by repeat (first | exact kp_refl | refine kp_app rfl rfl ?_ | refine kp_cons rfl ?_)) rfl
    ·skip
     obtain rfl : nl = y := by omega
     refine cw_exit ?_
     refine fn_then_exit (fn_then_exit (fn_block_exit ?_))
     refine fn_next ?_
     refine cw_seq ?_
     have hM : readM l ls = _ := (readM_G hr (by omega)).trans (readJ_end hJ (by omega))
     rw [hd] at hM; cases hM
     exact absurd rfl he

set_option maxRecDepth 100000 in
set_option maxHeartbeats 2000000 in
theorem readOk (LA : Option Addr) (nl lc : Nat) (ls : List (List Int)) (A : Option Addr) (n c : Nat) (l : List Bd) (a : Nat) (acc : List Int) (w : World) (hlr : Rd w LA (strs ls)) (hll : ls.length = nl) (hnl : nl ≤ 1000000) (hBs : Byts ls) (hsz : ∀ s ∈ ls, s.length ≤ 1000000) (hb : Rd w A (bcells l)) (hl : l.length = n) (hn : n ≤ 100000000) (hcap : n ≤ c) (hd : readM l ls = (0, a, acc)) :
    Ret Tryd.prog 40 [.slice LA nl lc, .slice A n c] w (fun v w' => ∃ g bl, v = .tuple #[.pointer (some ⟨g, 0, none⟩), .int .i64 0] ∧ HS w w' [gOb g a nl acc bl]) := by
 refine ret_enter Tryd.func40 rfl rfl rfl ?_
 have H0 := HS.start w
 refine cw_seq ?_
 refine cw_reg ?_
 refine ry (y_asg rfl rfl) rfl rfl ?_
 refine ry (y_asg rfl rfl) rfl rfl ?_
 refine reg_nil ?_
 refine fn_next ?_
 refine cw_seq ?_
 refine cw_block ?_
 refine cw_seq ?_
 refine cw_reg ?_
 refine ry (y_mov rfl rfl) rfl rfl ?_
 refine reg_op (op_call (tintRight A n c l _ (hb.below H0.base) hl hn hcap) rfl kfreads1_1 ⟨rfl, trivial⟩) rfl rfl ?_
 rintro _ w2 ⟨rfl, e1⟩
 have H3 := H0.ext e1
 refine ry (y_not rfl rfl) rfl rfl ?_
 refine ry (y_asg rfl rfl) rfl rfl ?_
 refine reg_nil ?_
 refine fn_next ?_
 refine cw_cond rfl (fun h4 => ?_) (fun h4 => ?_)
 ·skip
  have hr : rgtB l = false := by simpa using h4
  refine cw_seq ?_
  refine cw_reg ?_
  refine ry (y_asg rfl rfl) rfl rfl ?_
  refine ry (y_asg rfl rfl) rfl rfl ?_
  refine reg_nil ?_
  refine fn_next ?_
  refine cw_ret ?_
  refine fn_block_ret (fn_then_ret ?_)
  refine fn_retn (vs := [_, _]) rfl ⟨rfl, rfl, trivial⟩ rfl ?_
  have hM : readM l ls = _ := readM_R hr
  rw [hd] at hM; cases hM
 ·skip
  have hr : rgtB l = true := by simpa using h4
  have hR := (rgtB_iff l).1 hr
  refine cw_seq ?_
  refine cw_reg ?_
  refine ry (y_mov rfl rfl) rfl rfl ?_
  refine ry (y_len rfl Tryd.underlying52 rfl) rfl rfl ?_
  refine ry (y_lss rfl rfl rfl) rfl rfl ?_
  refine ry (y_mov rfl rfl) rfl rfl ?_
  refine rg_splitd (d := 20) rfl (fun h5 => ?_) (fun h5 => ?_)
  ·skip
   refine rg_off rfl rfl rfl rfl rfl ?_
   refine rg_off rfl rfl rfl rfl rfl ?_
   refine rg_off rfl rfl rfl rfl rfl ?_
   refine ry (y_pick rfl rfl rfl) rfl rfl ?_
   refine ry (y_asg rfl rfl) rfl rfl ?_
   refine reg_nil ?_
   refine fn_next ?_
   refine cw_condt rfl ?_
   refine cw_seq ?_
   refine cw_reg ?_
   refine ry (y_asg rfl rfl) rfl rfl ?_
   refine ry (y_asg rfl rfl) rfl rfl ?_
   refine reg_nil ?_
   refine fn_next ?_
   refine cw_ret ?_
   refine fn_block_ret (fn_then_ret ?_)
   refine fn_retn (vs := [_, _]) rfl ⟨rfl, rfl, trivial⟩ rfl ?_
   have hM : readM l ls = _ := readM_S hr (by omega)
   rw [hd] at hM; cases hM
  ·skip
   refine rgy (y_mov rfl rfl) rfl rfl rfl rfl ?_
   refine rgy (y_len rfl Tryd.underlying52 rfl) rfl rfl rfl rfl ?_
   refine rgy (y_gtr rfl rfl rfl) rfl rfl rfl rfl ?_
   refine ry (y_pick rfl rfl rfl) rfl rfl ?_
   refine ry (y_asg rfl rfl) rfl rfl ?_
   refine reg_nil ?_
   refine fn_next ?_
   refine cw_condd rfl (fun h6 => ?_) (fun h6 => ?_)
   ·skip
    refine cw_seq ?_
    refine cw_reg ?_
    refine ry (y_asg rfl rfl) rfl rfl ?_
    refine ry (y_asg rfl rfl) rfl rfl ?_
    refine reg_nil ?_
    refine fn_next ?_
    refine cw_ret ?_
    refine fn_block_ret (fn_then_ret ?_)
    refine fn_retn (vs := [_, _]) rfl ⟨rfl, rfl, trivial⟩ rfl ?_
    have hM : readM l ls = _ := readM_S hr (by omega)
    rw [hd] at hM; cases hM
   ·skip
    refine cw_skip ?_
    refine fn_block ?_
    refine fn_next ?_
    refine cw_seq ?_
    refine cw_reg ?_
    refine ry (y_asg rfl rfl) rfl rfl ?_
    refine reg_nil ?_
    refine fn_next ?_
    refine cw_seq ?_
    refine cw_reg ?_
    refine ry (y_asg rfl rfl) rfl rfl ?_
    refine reg_nil ?_
    refine fn_next ?_
    refine cw_seq ?_
    refine cw_seq ?_
    refine cw_reg ?_
    refine ry (y_mov rfl rfl) rfl rfl ?_
    refine ry (y_len rfl Tryd.underlying52 rfl) rfl rfl ?_
    refine ry (y_mov rfl rfl) rfl rfl ?_
    refine reg_nil ?_
    refine fn_next ?_
    refine cw_block ?_
    have H7 := H3.nilrow 2 1
    refine cw_loopJ [4, 5, 6, 7, 8, 9, 10, 11, 27, 28, 29, 30, 31, 32, 33, 34, 35, 36, 37, 38, 39, 40, 41, 42, 43, 44, 45, 46, 47, 48, 49, 50, 51, 52, 53, 54, 55, 56, 57, 58, 59, 60, 61] (fun M wl ml => ∃ (y a c2 : Nat) (acc : List Int) (A1 : Option Addr), M = [(6, .slice A1 acc.length c2), (7, .int .i64 (a : Int)), (27, .int .i64 (y : Int))] ∧ HS w wl [Ob.row A1 acc.length c2 (vi .i64 acc) 2 1] ∧ (y ≤ nl) ∧ (readJ l ls y a acc) ∧ ml = nl + 1 - y) ⟨0, 0, 0, [], none, rfl, H7, Nat.zero_le _, readJ_init, rfl⟩ ⟨rfl, rfl, rfl, trivial⟩ ?_
    rintro M w8 m10 ⟨y, a, c2, acc, A1, rfl, H9, hyl, hJ, rfl⟩
    have hbd := readJ_bd hJ (by omega)
    refine cw_seq ?_
    refine cw_reg ?_
    refine ry (y_lss rfl rfl rfl) rfl rfl ?_
    refine reg_nil ?_
    refine fn_next ?_
    refine cw_seq ?_
    refine cw_condd rfl (fun h11 => ?_) (fun h11 => ?_)
    ·skip
     have gs := strs_get (ls := ls) (i := y) (by omega)
     refine cw_skip ?_
     refine fn_next ?_
     refine cw_seq ?_
     refine cw_block ?_
     refine cw_seq ?_
     refine cw_reg ?_
     refine ry (y_mov rfl rfl) rfl rfl ?_
     refine ry (y_iar (hlr.below H9.base) rfl rfl rfl kfreads1_2 (rfl) (by omega) (Nat.mul_one _) (gs)) rfl rfl ?_
     refine ry (y_ldr (hlr.below H9.base) rfl rfl kfreads1_3 (gs)) rfl rfl ?_
     refine ry (y_asg rfl rfl) rfl rfl ?_
     refine ry (y_asg rfl rfl) rfl rfl ?_
     refine reg_nil ?_
     refine fn_next ?_
     refine cw_seq ?_
     rcases hrow : rowM l (ls.getD y []) with _ | r
     ·skip
      refine cw_reg ?_
      refine ry (y_mov rfl rfl) rfl rfl ?_
      refine ry (y_mov rfl rfl) rfl rfl ?_
      refine reg_op (op_call (rowNo A n c l (ls.getD y []) _ hr (hb.below H9.base) hl hn hcap (hBs.at_ (by omega)) (getD_len hsz (by omega)) hrow) rfl kfreads1_4 ⟨rfl, rfl, trivial⟩) rfl rfl ?_
      rintro _ w13 ⟨rfl, e12⟩
      have H14 := H9.ext e12
      refine ry (y_mov rfl rfl) rfl rfl ?_
      refine ry (y_ext rfl rfl rfl) rfl rfl ?_
      refine ry (y_ext rfl rfl rfl) rfl rfl ?_
      refine ry (y_asg rfl rfl) rfl rfl ?_
      refine ry (y_asg rfl rfl) rfl rfl ?_
      refine reg_nil ?_
      refine fn_next ?_
      refine cw_seq ?_
      refine cw_seq ?_
      refine cw_reg ?_
      refine ry (y_mov rfl rfl) rfl rfl ?_
      refine ry (y_eql rfl rfl rfl) rfl rfl ?_
      refine reg_nil ?_
      refine fn_next ?_
      refine cw_condd rfl (fun h15 => ?_) (fun h15 => ?_)
      ·skip
       refine cw_reg ?_
       refine ry (y_mov rfl rfl) rfl rfl ?_
       refine ry (y_len rfl Tryd.underlying22 rfl) rfl rfl ?_
       refine ry (y_asg rfl rfl) rfl rfl ?_
       refine reg_nil ?_
       refine fn_next ?_
       refine cw_seq ?_
       refine cw_block ?_
       refine cw_seq ?_
       refine cw_reg ?_
       refine ry (y_mov rfl rfl) rfl rfl ?_
       refine ry (y_neq rfl rfl rfl) rfl rfl ?_
       refine ry (y_asg rfl rfl) rfl rfl ?_
       refine reg_nil ?_
       refine fn_next ?_
       refine cw_condt rfl ?_
       refine cw_seq ?_
       refine cw_reg ?_
       refine ry (y_mov rfl rfl) rfl rfl ?_
       refine ry (y_asg rfl rfl) rfl rfl ?_
       refine ry (y_asg rfl rfl) rfl rfl ?_
       refine reg_nil ?_
       refine fn_next ?_
       refine cw_ret ?_
       refine fn_block_ret (fn_then_ret (fn_block_ret (fn_then_ret (fn_then_ret (fn_block_ret (fn_then_ret ?_))))))
       refine fn_retn (vs := [_, _]) rfl ⟨rfl, rfl, trivial⟩ rfl ?_
       have hM : readM l ls = _ := (readM_G hr (by omega)).trans (readJ_none hJ (by omega) hrow)
       rw [hd] at hM; cases hM
      ·skip
       refine cw_skip ?_
       refine fn_next ?_
       refine cw_seq ?_
       refine cw_block ?_
       refine cw_seq ?_
       refine cw_reg ?_
       refine ry (y_mov rfl rfl) rfl rfl ?_
       refine ry (y_neq rfl rfl rfl) rfl rfl ?_
       refine ry (y_asg rfl rfl) rfl rfl ?_
       refine reg_nil ?_
       refine fn_next ?_
       refine cw_condt rfl ?_
       refine cw_seq ?_
       refine cw_reg ?_
       refine ry (y_mov rfl rfl) rfl rfl ?_
       refine ry (y_asg rfl rfl) rfl rfl ?_
       refine ry (y_asg rfl rfl) rfl rfl ?_
       refine reg_nil ?_
       refine fn_next ?_
       refine cw_ret ?_
       refine fn_block_ret (fn_then_ret (fn_block_ret (fn_then_ret (fn_then_ret (fn_block_ret (fn_then_ret ?_))))))
       refine fn_retn (vs := [_, _]) rfl ⟨rfl, rfl, trivial⟩ rfl ?_
       have hM : readM l ls = _ := (readM_G hr (by omega)).trans (readJ_none hJ (by omega) hrow)
       rw [hd] at hM; cases hM
     ·skip
      have hrl := rowM_len hrow
      have hsy := getD_len hsz (i := y) (by omega)
      refine cw_reg ?_
      refine ry (y_mov rfl rfl) rfl rfl ?_
      refine ry (y_mov rfl rfl) rfl rfl ?_
      refine reg_op (op_call (rowOk A n c l (ls.getD y []) r _ hr (hb.below H9.base) hl hn hcap (hBs.at_ (by omega)) (getD_len hsz (by omega)) hrow) rfl kfreads1_4 ⟨rfl, rfl, trivial⟩) rfl rfl ?_
      rintro _ w17 ⟨A19, c20, rfl, k16⟩
      have H18 := H9.call k16
      refine ry (y_mov rfl rfl) rfl rfl ?_
      refine ry (y_ext rfl rfl rfl) rfl rfl ?_
      refine ry (y_ext rfl rfl rfl) rfl rfl ?_
      refine ry (y_asg rfl rfl) rfl rfl ?_
      refine ry (y_asg rfl rfl) rfl rfl ?_
      refine reg_nil ?_
      refine fn_next ?_
      refine cw_seq ?_
      refine cw_seq ?_
      refine cw_reg ?_
      refine ry (y_mov rfl rfl) rfl rfl ?_
      refine ry (y_eql rfl rfl rfl) rfl rfl ?_
      refine reg_nil ?_
      refine fn_next ?_
      refine cw_condd rfl (fun h21 => ?_) (fun h21 => ?_)
      ·skip
       have hw : r.length = if y = 0 then r.length else a := by rw [if_pos (by omega)]
       refine cw_reg ?_
       refine ry (y_mov rfl rfl) rfl rfl ?_
       refine ry (y_len rfl Tryd.underlying22 rfl) rfl rfl ?_
       refine ry (y_asg rfl rfl) rfl rfl ?_
       refine reg_nil ?_
       refine fn_next ?_
       refine cw_seq ?_
       refine cw_block ?_
       refine cw_seq ?_
       refine cw_reg ?_
       refine ry (y_mov rfl rfl) rfl rfl ?_
       refine ry (y_neq rfl rfl rfl) rfl rfl ?_
       refine ry (y_asg rfl rfl) rfl rfl ?_
       refine reg_nil ?_
       refine fn_next ?_
       refine cw_condf rfl ?_
       refine cw_seq ?_
       refine cw_reg ?_
       refine ry (y_mov rfl rfl) rfl rfl ?_
       refine ry (y_lss rfl rfl rfl) rfl rfl ?_
       refine ry (y_mov rfl rfl) rfl rfl ?_
       refine rg_splitd (d := 49) rfl (fun h22 => ?_) (fun h22 => ?_)
       ·skip
        refine rg_off rfl rfl rfl rfl rfl ?_
        refine rg_off rfl rfl rfl rfl rfl ?_
        refine ry (y_pick rfl rfl rfl) rfl rfl ?_
        refine ry (y_asg rfl rfl) rfl rfl ?_
        refine reg_nil ?_
        refine fn_next ?_
        refine cw_condt rfl ?_
        refine cw_seq ?_
        refine cw_reg ?_
        refine ry (y_asg rfl rfl) rfl rfl ?_
        refine ry (y_asg rfl rfl) rfl rfl ?_
        refine reg_nil ?_
        refine fn_next ?_
        refine cw_ret ?_
        refine fn_block_ret (fn_then_ret (fn_block_ret (fn_then_ret (fn_then_ret (fn_block_ret (fn_then_ret ?_))))))
        refine fn_retn (vs := [_, _]) rfl ⟨rfl, rfl, trivial⟩ rfl ?_
        have hM : readM l ls = _ := (readM_G hr (by omega)).trans (readJ_size hJ (by omega) hrow hw (by omega))
        rw [hd] at hM; cases hM
       ·skip
        refine rgy (y_mov rfl rfl) rfl rfl rfl rfl ?_
        refine rgy (y_gtr rfl rfl rfl) rfl rfl rfl rfl ?_
        refine ry (y_pick rfl rfl rfl) rfl rfl ?_
        refine ry (y_asg rfl rfl) rfl rfl ?_
        refine reg_nil ?_
        refine fn_next ?_
        refine cw_condd rfl (fun h23 => ?_) (fun h23 => ?_)
        ·skip
         refine cw_seq ?_
         refine cw_reg ?_
         refine ry (y_asg rfl rfl) rfl rfl ?_
         refine ry (y_asg rfl rfl) rfl rfl ?_
         refine reg_nil ?_
         refine fn_next ?_
         refine cw_ret ?_
         refine fn_block_ret (fn_then_ret (fn_block_ret (fn_then_ret (fn_then_ret (fn_block_ret (fn_then_ret ?_))))))
         refine fn_retn (vs := [_, _]) rfl ⟨rfl, rfl, trivial⟩ rfl ?_
         have hM : readM l ls = _ := (readM_G hr (by omega)).trans (readJ_size hJ (by omega) hrow hw (by omega))
         rw [hd] at hM; cases hM
        ·skip
         refine cw_seq ?_
         refine cw_reg ?_
         refine ry (y_mov rfl rfl) rfl rfl ?_
         refine ry (y_len rfl Tryd.underlying22 rfl) rfl rfl ?_
         refine ry (y_mov rfl rfl) rfl rfl ?_
         refine ry (y_neq rfl rfl rfl) rfl rfl ?_
         refine ry (y_asg rfl rfl) rfl rfl ?_
         refine reg_nil ?_
         refine fn_next ?_
         refine cw_condd rfl (fun h24 => ?_) (fun h24 => ?_)
         ·skip
          refine cw_seq ?_
          refine cw_reg ?_
          refine ry (y_asg rfl rfl) rfl rfl ?_
          refine ry (y_asg rfl rfl) rfl rfl ?_
          refine reg_nil ?_
          refine fn_next ?_
          refine cw_ret ?_
          refine fn_block_ret (fn_then_ret (fn_block_ret (fn_then_ret (fn_then_ret (fn_block_ret (fn_then_ret ?_))))))
          refine fn_retn (vs := [_, _]) rfl ⟨rfl, rfl, trivial⟩ rfl ?_
          have hM : readM l ls = _ := (readM_G hr (by omega)).trans (readJ_form hJ (by omega) hrow hw (by omega) (by omega))
          rw [hd] at hM; cases hM
         ·skip
          refine cw_skip ?_
          refine fn_block ?_
          refine fn_next ?_
          refine cw_reg ?_
          refine ry (y_mov rfl rfl) rfl rfl ?_
          refine ry (y_mov rfl rfl) rfl rfl ?_
          refine reg_op (op_app (i := 1) H18 rfl rfl rfl rfl (H18.rd (i := 0) rfl) (by rw [vi_len, Nat.mul_one]) (vi_one) Tryd.underlying22 kfreads1_5 rfl rfl (by unfold maxLen; omega) (by omega)) rfl rfl ?_
          rintro _ w27 ⟨A25, c26, rfl, H28⟩
          refine ry (y_asg rfl rfl) rfl rfl ?_
          refine reg_nil ?_
          refine fn_block ?_
          refine fn_next ?_
          refine cw_reg ?_
          refine ry (y_add rfl rfl rfl (wi (by omega))) rfl rfl ?_
          refine ry (y_mov rfl rfl) rfl rfl ?_
          refine reg_nil ?_
          have hpl : acc.length + r.length = (acc ++ r).length := by rw [List.length_append]
          rw [← vi_app, hpl] at H28
          refine fn_roundJ ⟨y + 1, r.length, _, acc ++ r, _, rfl, (H28.pick (m := [_]) [1] rfl (by decide)), by omega, readJ_next hR hJ (by omega) hrow hw (by omega) (by omega), rfl⟩ ⟨by rw [← hpl]; rfl, rfl, rfl, trivial⟩ (by omega) (by repeat (first | exact kp_refl | refine kp_app rfl rfl ?_ | refine kp_cons rfl ?_)) rfl
      ·skip
       have hw : a = if y = 0 then r.length else a := by rw [if_neg (by omega)]
       refine cw_skip ?_
       refine fn_next ?_
       refine cw_seq ?_
       refine cw_block ?_
       refine cw_seq ?_
       refine cw_reg ?_
       refine ry (y_mov rfl rfl) rfl rfl ?_
       refine ry (y_neq rfl rfl rfl) rfl rfl ?_
       refine ry (y_asg rfl rfl) rfl rfl ?_
       refine reg_nil ?_
       refine fn_next ?_
       refine cw_condf rfl ?_
       refine cw_seq ?_
       refine cw_reg ?_
       refine ry (y_mov rfl rfl) rfl rfl ?_
       refine ry (y_lss rfl rfl rfl) rfl rfl ?_
       refine ry (y_mov rfl rfl) rfl rfl ?_
       refine rg_splitd (d := 49) rfl (fun h29 => ?_) (fun h29 => ?_)
       ·skip
        refine rg_off rfl rfl rfl rfl rfl ?_
        refine rg_off rfl rfl rfl rfl rfl ?_
        refine ry (y_pick rfl rfl rfl) rfl rfl ?_
        refine ry (y_asg rfl rfl) rfl rfl ?_
        refine reg_nil ?_
        refine fn_next ?_
        refine cw_condt rfl ?_
        refine cw_seq ?_
        refine cw_reg ?_
        refine ry (y_asg rfl rfl) rfl rfl ?_
        refine ry (y_asg rfl rfl) rfl rfl ?_
        refine reg_nil ?_
        refine fn_next ?_
        refine cw_ret ?_
        refine fn_block_ret (fn_then_ret (fn_block_ret (fn_then_ret (fn_then_ret (fn_block_ret (fn_then_ret ?_))))))
        refine fn_retn (vs := [_, _]) rfl ⟨rfl, rfl, trivial⟩ rfl ?_
        have hM : readM l ls = _ := (readM_G hr (by omega)).trans (readJ_size hJ (by omega) hrow hw (by omega))
        rw [hd] at hM; cases hM
       ·skip
        refine rgy (y_mov rfl rfl) rfl rfl rfl rfl ?_
        refine rgy (y_gtr rfl rfl rfl) rfl rfl rfl rfl ?_
        refine ry (y_pick rfl rfl rfl) rfl rfl ?_
        refine ry (y_asg rfl rfl) rfl rfl ?_
        refine reg_nil ?_
        refine fn_next ?_
        refine cw_condd rfl (fun h30 => ?_) (fun h30 => ?_)
        ·skip
         refine cw_seq ?_
         refine cw_reg ?_
         refine ry (y_asg rfl rfl) rfl rfl ?_
         refine ry (y_asg rfl rfl) rfl rfl ?_
         refine reg_nil ?_
         refine fn_next ?_
         refine cw_ret ?_
         refine fn_block_ret (fn_then_ret (fn_block_ret (fn_then_ret (fn_then_ret (fn_block_ret (fn_then_ret ?_))))))
         refine fn_retn (vs := [_, _]) rfl ⟨rfl, rfl, trivial⟩ rfl ?_
         have hM : readM l ls = _ := (readM_G hr (by omega)).trans (readJ_size hJ (by omega) hrow hw (by omega))
         rw [hd] at hM; cases hM
        ·skip
         refine cw_seq ?_
         refine cw_reg ?_
         refine ry (y_mov rfl rfl) rfl rfl ?_
         refine ry (y_len rfl Tryd.underlying22 rfl) rfl rfl ?_
         refine ry (y_mov rfl rfl) rfl rfl ?_
         refine ry (y_neq rfl rfl rfl) rfl rfl ?_
         refine ry (y_asg rfl rfl) rfl rfl ?_
         refine reg_nil ?_
         refine fn_next ?_
         refine cw_condd rfl (fun h31 => ?_) (fun h31 => ?_)
         ·skip
          refine cw_seq ?_
          refine cw_reg ?_
          refine ry (y_asg rfl rfl) rfl rfl ?_
          refine ry (y_asg rfl rfl) rfl rfl ?_
          refine reg_nil ?_
          refine fn_next ?_
          refine cw_ret ?_
          refine fn_block_ret (fn_then_ret (fn_block_ret (fn_then_ret (fn_then_ret (fn_block_ret (fn_then_ret ?_))))))
          refine fn_retn (vs := [_, _]) rfl ⟨rfl, rfl, trivial⟩ rfl ?_
          have hM : readM l ls = _ := (readM_G hr (by omega)).trans (readJ_form hJ (by omega) hrow hw (by omega) (by omega))
          rw [hd] at hM; cases hM
         ·skip
          refine cw_skip ?_
          refine fn_block ?_
          refine fn_next ?_
          refine cw_reg ?_
          refine ry (y_mov rfl rfl) rfl rfl ?_
          refine ry (y_mov rfl rfl) rfl rfl ?_
          refine reg_op (op_app (i := 1) H18 rfl rfl rfl rfl (H18.rd (i := 0) rfl) (by rw [vi_len, Nat.mul_one]) (vi_one) Tryd.underlying22 kfreads1_5 rfl rfl (by unfold maxLen; omega) (by omega)) rfl rfl ?_
          rintro _ w34 ⟨A32, c33, rfl, H35⟩
          refine ry (y_asg rfl rfl) rfl rfl ?_
          refine reg_nil ?_
          refine fn_block ?_
          refine fn_next ?_
          refine cw_reg ?_
          refine ry (y_add rfl rfl rfl (wi (by omega))) rfl rfl ?_
          refine ry (y_mov rfl rfl) rfl rfl ?_
          refine reg_nil ?_
          have hpl : acc.length + r.length = (acc ++ r).length := by rw [List.length_append]
          rw [← vi_app, hpl] at H35
          refine fn_roundJ ⟨y + 1, a, _, acc ++ r, _, rfl, (H35.pick (m := [_]) [1] rfl (by decide)), by omega, readJ_next hR hJ (by omega) hrow hw (by omega) (by omega), rfl⟩ ⟨by rw [← hpl]; rfl, rfl, rfl, trivial⟩ (by omega) (by repeat (first | exact kp_refl | refine kp_app rfl rfl ?_ | refine kp_cons rfl ?_)) rfl
    ·skip
     obtain rfl : nl = y := by omega
     refine cw_exit ?_
     refine fn_then_exit (fn_then_exit (fn_block_exit ?_))
     refine fn_next ?_
     refine cw_seq ?_
     have hM : readM l ls = _ := (readM_G hr (by omega)).trans (readJ_end hJ (by omega))
     ·skip
      rw [hd] at hM; cases hM
      have hsz2 : SzG a nl := ⟨(hJ.2.2.2 (by omega)).1, (hJ.2.2.2 (by omega)).2, by omega, by omega⟩
      refine cw_reg ?_
      refine ry (y_mov rfl rfl) rfl rfl ?_
      refine ry (y_mov rfl rfl) rfl rfl ?_
      refine ry (y_len rfl Tryd.underlying52 rfl) rfl rfl ?_
      refine ry (y_mov rfl rfl) rfl rfl ?_
      refine reg_op (op_call (gFrom_ok a nl acc _ acc.length _ _ (H9.rd (i := 0) rfl) rfl (by omega) hsz2 (fromC_fine hsz2 (by rw [hJ.2.1]) hJ.2.2.1)) rfl kfreads1_6 ⟨rfl, rfl, rfl, trivial⟩) rfl rfl ?_
      rintro _ w37 ⟨g39, bl40, rfl, k36⟩
      have H38 := H9.call k36
      refine ry (y_ext rfl rfl rfl) rfl rfl ?_
      refine ry (y_ext rfl rfl rfl) rfl rfl ?_
      refine ry (y_asg rfl rfl) rfl rfl ?_
      refine ry (y_asg rfl rfl) rfl rfl ?_
      refine reg_nil ?_
      refine fn_next ?_
      refine cw_ret ?_
      refine fn_retn (vs := [_, _]) rfl ⟨rfl, rfl, trivial⟩ rfl ?_
      exact ⟨_, _, rfl, (H38.pick (m := [_]) [0] rfl (by decide))⟩

end Go.Proofs.YtgkkbeomhkggjaaDoor
