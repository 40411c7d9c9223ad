/- Layer 34: a rune's place, a rune, a new sign. -/
import Derived.Test.YtgkkbeomhkggjaaDoorMarks1
set_option linter.unusedVariables false
set_option linter.unusedSimpArgs false
namespace Go.Proofs.YtgkkbeomhkggjaaDoor
open Go Go.RowKit
theorem kfmarks2_1 : fldB Tryd.prog 24 1 1 = true := by kernel_rfl
theorem kfmarks2_2 : oneB Tryd.prog 2 = true := by kernel_rfl
theorem kfmarks2_3 : fldB Tryd.prog 24 0 0 = true := by kernel_rfl
theorem kfmarks2_4 : elB Tryd.prog 52 1 = true := by kernel_rfl
theorem kfmarks2_5 : oneB Tryd.prog 9 = true := by kernel_rfl
theorem kfmarks2_6 : callB Tryd.prog 44 = true := by kernel_rfl
theorem kfmarks2_7 : aggB Tryd.prog 24 2 = true := by kernel_rfl
theorem kfmarks2_8 : callB Tryd.prog 43 = true := by kernel_rfl
theorem kfmarks2_9 : (Tryd.prog.info? 9).map (fun i => (i.size, i.zero.map Value.cells)) = some (1, some (List.toArray [(.string .empty)])) := by kernel_rfl
theorem kfmarks2_10 : (Tryd.prog.info? 9).map (fun i => (i.zero.map (·.cells.toList), i.size, i.bytes)) = some (some [(.string .empty)], 1, 16) := by kernel_rfl
theorem kfmarks2_11 : callB Tryd.prog 45 = true := by kernel_rfl
theorem kfmarks2_12 : callB Tryd.prog 46 = true := by kernel_rfl
theorem kfmarks2_13 : szB Tryd.prog 9 1 = true := by kernel_rfl
theorem strs_one {ls : List (List Int)} : (strs ls).all Value.oneCell' = true := by
  rw [List.all_eq_true]
  intro v hv
  unfold strs at hv
  obtain ⟨l, _, rfl⟩ := List.mem_map.1 hv
  rfl
theorem strs_set {ls : List (List Int)} {y : Nat} {s : List Int} : (strs ls).set y (.string (bs s)) = strs (ls.set y s) := by simp [strs, List.map_set]
theorem dt_piece {s : List Int} {p k : Nat} : (s.take (p + k)).drop p = (s.drop p).take k := by rw [List.drop_take, Nat.add_sub_cancel_left]

set_option maxRecDepth 100000 in
theorem findOut (LA : Option Addr) (nl lc : Nat) (ls : List (List Int)) (x y : Int) (w : World) (hT : Tabs w) (hlr : Rd w LA (strs ls)) (hll : ls.length = nl) (hnl : nl ≤ 1000000) (hBs : Byts ls) (hsz : ∀ s ∈ ls, s.length ≤ 1000000) (ho : y < 0 ∨ (nl : Int) ≤ y ∨ x < 0) :
    Ret Tryd.prog 43 [.slice LA nl lc, .agg #[.int .i64 x, .int .i64 y]] w (fun v w' => ∃ u i j, v = .tuple #[u, i, j, .bool false] ∧ Below w.heap.size w w') := by
 refine ret_enter Tryd.func43 rfl rfl rfl ?_
 have H0 := HS.start w
 refine cw_seq ?_
 refine cw_reg ?_
 refine reg_op (op_box (cs := [.int _ _, .int _ _]) H0 rfl rfl rfl) rfl rfl ?_
 rintro _ w2 ⟨b1, rfl, H3⟩
 refine ry (y_asg rfl rfl) rfl rfl ?_
 refine ry (y_asg rfl rfl) rfl rfl ?_
 refine ry (y_asg rfl rfl) rfl rfl ?_
 refine ry (y_asg rfl rfl) rfl rfl ?_
 refine reg_nil ?_
 refine fn_next ?_
 refine cw_seq ?_
 refine cw_seq ?_
 refine cw_reg ?_
 refine ry (y_fa rfl rfl kfmarks2_1 rfl) rfl rfl ?_
 refine ry (y_ld rfl rfl kfmarks2_2 (H3.cell (i := 0) rfl rfl)) rfl rfl ?_
 refine ry (y_lss rfl rfl rfl) rfl rfl ?_
 refine ry (y_mov rfl rfl) rfl rfl ?_
 refine rg_splitd (d := 15) rfl (fun h4 => ?_) (fun h4 => ?_)
 ·skip
  refine rg_off rfl rfl rfl rfl rfl ?_
  refine rg_off rfl rfl rfl rfl rfl ?_
  refine rg_off rfl rfl rfl rfl rfl ?_
  refine rg_off rfl rfl rfl rfl rfl ?_
  refine rg_off rfl rfl rfl rfl rfl ?_
  refine ry (y_pick rfl rfl rfl) rfl rfl ?_
  refine ry (y_mov rfl rfl) rfl rfl ?_
  refine rg_off rfl rfl rfl rfl rfl ?_
  refine rg_off rfl rfl rfl rfl rfl ?_
  refine rg_off rfl rfl rfl rfl rfl ?_
  refine ry (y_pick rfl rfl rfl) rfl rfl ?_
  refine reg_nil ?_
  refine fn_next ?_
  refine cw_condt rfl ?_
  refine cw_seq ?_
  refine cw_reg ?_
  refine ry (y_asg rfl rfl) rfl rfl ?_
  refine ry (y_asg rfl rfl) rfl rfl ?_
  refine ry (y_asg rfl rfl) rfl rfl ?_
  refine ry (y_asg rfl rfl) rfl rfl ?_
  refine reg_nil ?_
  refine fn_next ?_
  refine cw_ret ?_
  refine fn_then_ret ?_
  refine fn_retn (vs := [_, _, _, _]) rfl ⟨rfl, rfl, rfl, rfl, trivial⟩ rfl ?_
  exact ⟨_, _, _, rfl, H3.base⟩
 ·skip
  refine rgy (y_fa rfl rfl kfmarks2_1 rfl) rfl rfl rfl rfl ?_
  refine rgy (y_ld rfl rfl kfmarks2_2 (H3.cell (i := 0) rfl rfl)) rfl rfl rfl rfl ?_
  refine rgy (y_mov rfl rfl) rfl rfl rfl rfl ?_
  refine rgy (y_len rfl Tryd.underlying52 rfl) rfl rfl rfl rfl ?_
  refine rgy (y_geq rfl rfl rfl) rfl rfl rfl rfl ?_
  refine ry (y_pick rfl rfl rfl) rfl rfl ?_
  refine ry (y_mov rfl rfl) rfl rfl ?_
  refine rg_splitd (d := 22) rfl (fun h5 => ?_) (fun h5 => ?_)
  ·skip
   refine rg_off rfl rfl rfl rfl rfl ?_
   refine rg_off rfl rfl rfl rfl rfl ?_
   refine rg_off rfl rfl rfl rfl rfl ?_
   refine ry (y_pick rfl rfl rfl) rfl rfl ?_
   refine reg_nil ?_
   refine fn_next ?_
   refine cw_condt rfl ?_
   refine cw_seq ?_
   refine cw_reg ?_
   refine ry (y_asg rfl rfl) rfl rfl ?_
   refine ry (y_asg rfl rfl) rfl rfl ?_
   refine ry (y_asg rfl rfl) rfl rfl ?_
   refine ry (y_asg rfl rfl) rfl rfl ?_
   refine reg_nil ?_
   refine fn_next ?_
   refine cw_ret ?_
   refine fn_then_ret ?_
   refine fn_retn (vs := [_, _, _, _]) rfl ⟨rfl, rfl, rfl, rfl, trivial⟩ rfl ?_
   exact ⟨_, _, _, rfl, H3.base⟩
  ·skip
   refine rgy (y_fa rfl rfl kfmarks2_3 rfl) rfl rfl rfl rfl ?_
   refine rgy (y_ld rfl rfl kfmarks2_2 (H3.cell (i := 0) rfl rfl)) rfl rfl rfl rfl ?_
   refine rgy (y_lss rfl rfl rfl) rfl rfl rfl rfl ?_
   refine ry (y_pick rfl rfl rfl) rfl rfl ?_
   refine reg_nil ?_
   refine fn_next ?_
   refine cw_condd rfl (fun h6 => ?_) (fun h6 => ?_)
   ·skip
    refine cw_seq ?_
    refine cw_reg ?_
    refine ry (y_asg rfl rfl) rfl rfl ?_
    refine ry (y_asg rfl rfl) rfl rfl ?_
    refine ry (y_asg rfl rfl) rfl rfl ?_
    refine ry (y_asg rfl rfl) rfl rfl ?_
    refine reg_nil ?_
    refine fn_next ?_
    refine cw_ret ?_
    refine fn_then_ret ?_
    refine fn_retn (vs := [_, _, _, _]) rfl ⟨rfl, rfl, rfl, rfl, trivial⟩ rfl ?_
    exact ⟨_, _, _, rfl, H3.base⟩
   · exfalso; omega

set_option maxRecDepth 100000 in
set_option maxHeartbeats 1000000 in
theorem findFar (LA : Option Addr) (nl lc : Nat) (ls : List (List Int)) (x y : Nat) (w : World) (hT : Tabs w) (hlr : Rd w LA (strs ls)) (hll : ls.length = nl) (hnl : nl ≤ 1000000) (hBs : Byts ls) (hsz : ∀ s ∈ ls, s.length ≤ 1000000) (hy : y < nl) (hx9 : x < 9223372036854775808) (hx : (rcs (ls.getD y [])).length ≤ x) :
    Ret Tryd.prog 43 [.slice LA nl lc, .agg #[.int .i64 (x : Int), .int .i64 (y : Int)]] w (fun v w' => ∃ u i j, v = .tuple #[u, i, j, .bool false] ∧ Below w.heap.size w w') := by
 have hBy := hBs.at_ (i := y) (by omega)
 have hsy := getD_len hsz (i := y) (by omega)
 have hT0 := hT.size
 have gs := strs_get (ls := ls) (i := y) (by omega)
 have hrl := rcs_len (s := (ls.getD y []))
 refine ret_enter Tryd.func43 rfl rfl rfl ?_
 have H0 := HS.start w
 refine cw_seq ?_
 refine cw_reg ?_
 refine reg_op (op_box (cs := [.int _ _, .int _ _]) H0 rfl rfl rfl) rfl rfl ?_
 rintro _ w2 ⟨b1, rfl, H3⟩
 refine ry (y_asg rfl rfl) rfl rfl ?_
 refine ry (y_asg rfl rfl) rfl rfl ?_
 refine ry (y_asg rfl rfl) rfl rfl ?_
 refine ry (y_asg rfl rfl) rfl rfl ?_
 refine reg_nil ?_
 refine fn_next ?_
 refine cw_seq ?_
 refine cw_seq ?_
 refine cw_reg ?_
 refine ry (y_fa rfl rfl kfmarks2_1 rfl) rfl rfl ?_
 refine ry (y_ld rfl rfl kfmarks2_2 (H3.cell (i := 0) rfl rfl)) rfl rfl ?_
 refine ry (y_lss rfl rfl rfl) rfl rfl ?_
 refine ry (y_mov rfl rfl) rfl rfl ?_
 refine rg_splitd (d := 15) rfl (fun h4 => ?_) (fun h4 => ?_)
 ·skip
  refine rg_off rfl rfl rfl rfl rfl ?_
  refine rg_off rfl rfl rfl rfl rfl ?_
  refine rg_off rfl rfl rfl rfl rfl ?_
  refine rg_off rfl rfl rfl rfl rfl ?_
  refine rg_off rfl rfl rfl rfl rfl ?_
  refine ry (y_pick rfl rfl rfl) rfl rfl ?_
  refine ry (y_mov rfl rfl) rfl rfl ?_
  refine rg_off rfl rfl rfl rfl rfl ?_
  refine rg_off rfl rfl rfl rfl rfl ?_
  refine rg_off rfl rfl rfl rfl rfl ?_
  refine ry (y_pick rfl rfl rfl) rfl rfl ?_
  refine reg_nil ?_
  refine fn_next ?_
  refine cw_condt rfl ?_
  refine cw_seq ?_
  refine cw_reg ?_
  refine ry (y_asg rfl rfl) rfl rfl ?_
  refine ry (y_asg rfl rfl) rfl rfl ?_
  refine ry (y_asg rfl rfl) rfl rfl ?_
  refine ry (y_asg rfl rfl) rfl rfl ?_
  refine reg_nil ?_
  refine fn_next ?_
  refine cw_ret ?_
  refine fn_then_ret ?_
  refine fn_retn (vs := [_, _, _, _]) rfl ⟨rfl, rfl, rfl, rfl, trivial⟩ rfl ?_
  exfalso; omega
 ·skip
  refine rgy (y_fa rfl rfl kfmarks2_1 rfl) rfl rfl rfl rfl ?_
  refine rgy (y_ld rfl rfl kfmarks2_2 (H3.cell (i := 0) rfl rfl)) rfl rfl rfl rfl ?_
  refine rgy (y_mov rfl rfl) rfl rfl rfl rfl ?_
  refine rgy (y_len rfl Tryd.underlying52 rfl) rfl rfl rfl rfl ?_
  refine rgy (y_geq rfl rfl rfl) rfl rfl rfl rfl ?_
  refine ry (y_pick rfl rfl rfl) rfl rfl ?_
  refine ry (y_mov rfl rfl) rfl rfl ?_
  refine rg_splitd (d := 22) rfl (fun h5 => ?_) (fun h5 => ?_)
  ·skip
   refine rg_off rfl rfl rfl rfl rfl ?_
   refine rg_off rfl rfl rfl rfl rfl ?_
   refine rg_off rfl rfl rfl rfl rfl ?_
   refine ry (y_pick rfl rfl rfl) rfl rfl ?_
   refine reg_nil ?_
   refine fn_next ?_
   refine cw_condt rfl ?_
   refine cw_seq ?_
   refine cw_reg ?_
   refine ry (y_asg rfl rfl) rfl rfl ?_
   refine ry (y_asg rfl rfl) rfl rfl ?_
   refine ry (y_asg rfl rfl) rfl rfl ?_
   refine ry (y_asg rfl rfl) rfl rfl ?_
   refine reg_nil ?_
   refine fn_next ?_
   refine cw_ret ?_
   refine fn_then_ret ?_
   refine fn_retn (vs := [_, _, _, _]) rfl ⟨rfl, rfl, rfl, rfl, trivial⟩ rfl ?_
   exfalso; omega
  ·skip
   refine rgy (y_fa rfl rfl kfmarks2_3 rfl) rfl rfl rfl rfl ?_
   refine rgy (y_ld rfl rfl kfmarks2_2 (H3.cell (i := 0) rfl rfl)) rfl rfl rfl rfl ?_
   refine rgy (y_lss rfl rfl rfl) rfl rfl rfl rfl ?_
   refine ry (y_pick rfl rfl rfl) rfl rfl ?_
   refine reg_nil ?_
   refine fn_next ?_
   refine cw_condd rfl (fun h6 => ?_) (fun h6 => ?_)
   · exfalso; omega
   ·skip
    refine cw_skip ?_
    refine fn_next ?_
    refine cw_seq ?_
    refine cw_reg ?_
    refine ry (y_mov rfl rfl) rfl rfl ?_
    refine ry (y_fa rfl rfl kfmarks2_1 rfl) rfl rfl ?_
    refine ry (y_ld rfl rfl kfmarks2_2 (H3.cell (i := 0) rfl rfl)) rfl rfl ?_
    refine ry (y_iar (hlr.below H3.base) rfl rfl rfl kfmarks2_4 (rfl) (by omega) (Nat.mul_one _) (gs)) rfl rfl ?_
    refine ry (y_ldr (hlr.below H3.base) rfl rfl kfmarks2_5 (gs)) rfl rfl ?_
    refine ry (y_asg rfl rfl) rfl rfl ?_
    refine reg_nil ?_
    refine fn_next ?_
    refine cw_seq ?_
    refine cw_reg ?_
    refine ry (y_fa rfl rfl kfmarks2_3 rfl) rfl rfl ?_
    refine ry (y_ld rfl rfl kfmarks2_2 (H3.cell (i := 0) rfl rfl)) rfl rfl ?_
    refine ry (y_asg rfl rfl) rfl rfl ?_
    refine reg_nil ?_
    refine fn_next ?_
    refine cw_seq ?_
    refine cw_seq ?_
    refine cw_reg ?_
    refine ry (y_mov rfl rfl) rfl rfl ?_
    refine reg_op (op_range H3 rfl Tryd.underlying9 rfl) rfl rfl ?_
    rintro _ w8 ⟨b7, rfl, H9⟩
    refine reg_nil ?_
    refine fn_next ?_
    refine cw_block ?_
    refine cw_loopJ [4, 5, 6, 7, 8, 9, 10, 11, 36, 37, 38, 39, 40, 41, 42, 43, 44, 45, 46, 47, 48, 49, 50, 51, 52, 53, 54] (fun M wl ml => ∃ (p k : Nat), M = [(4, .string (bs (ls.getD y []))), (8, .int .i64 ((x - k : Nat) : Int))] ∧ HS w wl [itOb b7 (ls.getD y []) p] ∧ (k ≤ x) ∧ (PlP (ls.getD y []) k p) ∧ ml = (ls.getD y []).length + 1 - p) ⟨0, 0, rfl, (H9.pick (m := [_]) [0] rfl (by decide)), Nat.zero_le _, plP_init, rfl⟩ ⟨rfl, rfl, trivial⟩ ?_
    rintro M w10 m12 ⟨p, k, rfl, H11, hkx, hP, rfl⟩
    have hpl := hP.1
    refine cw_seq ?_
    by_cases hp : p < (ls.getD y []).length
    ·skip
     have hz := runeD_size ((ls.getD y []).drop p)
     rw [List.length_drop] at hz
     have hq := plP_lt hP hp
     refine cw_reg ?_
     refine reg_op (op_next (i := 0) H11 rfl rfl rfl (hBy) (hp) rfl) rfl rfl ?_
     rintro _ w13 ⟨rfl, H14⟩
     refine ry (y_ext rfl rfl rfl) rfl rfl ?_
     refine reg_nil ?_
     refine fn_next ?_
     refine cw_seq ?_
     refine cw_condt rfl ?_
     refine cw_skip ?_
     refine fn_next ?_
     refine cw_block ?_
     refine cw_seq ?_
     refine cw_reg ?_
     refine ry (y_ext rfl rfl rfl) rfl rfl ?_
     refine ry (y_asg rfl rfl) rfl rfl ?_
     refine reg_nil ?_
     refine fn_next ?_
     refine cw_seq ?_
     refine cw_seq ?_
     refine cw_reg ?_
     refine ry (y_mov rfl rfl) rfl rfl ?_
     refine ry (y_eql rfl rfl rfl) rfl rfl ?_
     refine reg_nil ?_
     refine fn_next ?_
     refine cw_condd rfl (fun h15 => ?_) (fun h15 => ?_)
     ·skip
      exfalso; omega
     ·skip
      refine cw_skip ?_
      refine fn_next ?_
      refine cw_reg ?_
      refine ry (y_mov rfl rfl) rfl rfl ?_
      refine ry (y_sub rfl rfl rfl (show _ = ((x - (k + 1) : Nat) : Int) from (wi (by omega)).trans (by omega))) rfl rfl ?_
      refine ry (y_asg rfl rfl) rfl rfl ?_
      refine reg_nil ?_
      refine fn_block ?_
      refine fn_roundJ ⟨p + (runeD ((ls.getD y []).drop p)).2, k + 1, rfl, H14, by omega, plP_step hP hp, rfl⟩ ⟨rfl, rfl, trivial⟩ (by omega) (by repeat (first | exact kp_refl | refine kp_app rfl rfl ?_ | refine kp_cons rfl ?_)) rfl
    ·skip
     have hq := plP_end hP hp
     refine cw_reg ?_
     refine ry (y_nextend (i := 0) H11 rfl rfl rfl (hp)) rfl rfl ?_
     refine ry (y_ext rfl rfl rfl) rfl rfl ?_
     refine reg_nil ?_
     refine fn_next ?_
     refine cw_seq ?_
     refine cw_condf rfl ?_
     refine cw_exit ?_
     refine fn_then_exit (fn_then_exit (fn_block_exit ?_))
     refine fn_next ?_
     refine cw_seq ?_
     refine cw_reg ?_
     refine ry (y_asg rfl rfl) rfl rfl ?_
     refine ry (y_asg rfl rfl) rfl rfl ?_
     refine ry (y_asg rfl rfl) rfl rfl ?_
     refine ry (y_asg rfl rfl) rfl rfl ?_
     refine reg_nil ?_
     refine fn_next ?_
     refine cw_ret ?_
     refine fn_retn (vs := [_, _, _, _]) rfl ⟨rfl, rfl, rfl, rfl, trivial⟩ rfl ?_
     exact ⟨_, _, _, rfl, H11.base⟩

set_option maxRecDepth 100000 in
set_option maxHeartbeats 1000000 in
theorem findYes (LA : Option Addr) (nl lc : Nat) (ls : List (List Int)) (x y : Nat) (w : World) (hT : Tabs w) (hlr : Rd w LA (strs ls)) (hll : ls.length = nl) (hnl : nl ≤ 1000000) (hBs : Byts ls) (hsz : ∀ s ∈ ls, s.length ≤ 1000000) (hy : y < nl) (hx : x < (rcs (ls.getD y [])).length) :
    Ret Tryd.prog 43 [.slice LA nl lc, .agg #[.int .i64 (x : Int), .int .i64 (y : Int)]] w (fun v w' => ∃ p : Nat, v = .tuple #[.string (bs (ls.getD y [])), .int .i64 (p : Int), .int .i64 ((p + (runeD ((ls.getD y []).drop p)).2 : Nat) : Int), .bool true] ∧ PlP (ls.getD y []) x p ∧ p < (ls.getD y []).length ∧ Below w.heap.size w w') := by
 have hBy := hBs.at_ (i := y) (by omega)
 have hsy := getD_len hsz (i := y) (by omega)
 have hT0 := hT.size
 have gs := strs_get (ls := ls) (i := y) (by omega)
 have hrl := rcs_len (s := (ls.getD y []))
 refine ret_enter Tryd.func43 rfl rfl rfl ?_
 have H0 := HS.start w
 refine cw_seq ?_
 refine cw_reg ?_
 refine reg_op (op_box (cs := [.int _ _, .int _ _]) H0 rfl rfl rfl) rfl rfl ?_
 rintro _ w2 ⟨b1, rfl, H3⟩
 refine ry (y_asg rfl rfl) rfl rfl ?_
 refine ry (y_asg rfl rfl) rfl rfl ?_
 refine ry (y_asg rfl rfl) rfl rfl ?_
 refine ry (y_asg rfl rfl) rfl rfl ?_
 refine reg_nil ?_
 refine fn_next ?_
 refine cw_seq ?_
 refine cw_seq ?_
 refine cw_reg ?_
 refine ry (y_fa rfl rfl kfmarks2_1 rfl) rfl rfl ?_
 refine ry (y_ld rfl rfl kfmarks2_2 (H3.cell (i := 0) rfl rfl)) rfl rfl ?_
 refine ry (y_lss rfl rfl rfl) rfl rfl ?_
 refine ry (y_mov rfl rfl) rfl rfl ?_
 refine rg_splitd (d := 15) rfl (fun h4 => ?_) (fun h4 => ?_)
 ·skip
  refine rg_off rfl rfl rfl rfl rfl ?_
  refine rg_off rfl rfl rfl rfl rfl ?_
  refine rg_off rfl rfl rfl rfl rfl ?_
  refine rg_off rfl rfl rfl rfl rfl ?_
  refine rg_off rfl rfl rfl rfl rfl ?_
  refine ry (y_pick rfl rfl rfl) rfl rfl ?_
  refine ry (y_mov rfl rfl) rfl rfl ?_
  refine rg_off rfl rfl rfl rfl rfl ?_
  refine rg_off rfl rfl rfl rfl rfl ?_
  refine rg_off rfl rfl rfl rfl rfl ?_
  refine ry (y_pick rfl rfl rfl) rfl rfl ?_
  refine reg_nil ?_
  refine fn_next ?_
  refine cw_condt rfl ?_
  refine cw_seq ?_
  refine cw_reg ?_
  refine ry (y_asg rfl rfl) rfl rfl ?_
  refine ry (y_asg rfl rfl) rfl rfl ?_
  refine ry (y_asg rfl rfl) rfl rfl ?_
  refine ry (y_asg rfl rfl) rfl rfl ?_
  refine reg_nil ?_
  refine fn_next ?_
  refine cw_ret ?_
  refine fn_then_ret ?_
  refine fn_retn (vs := [_, _, _, _]) rfl ⟨rfl, rfl, rfl, rfl, trivial⟩ rfl ?_
  exfalso; omega
 ·skip
  refine rgy (y_fa rfl rfl kfmarks2_1 rfl) rfl rfl rfl rfl ?_
  refine rgy (y_ld rfl rfl kfmarks2_2 (H3.cell (i := 0) rfl rfl)) rfl rfl rfl rfl ?_
  refine rgy (y_mov rfl rfl) rfl rfl rfl rfl ?_
  refine rgy (y_len rfl Tryd.underlying52 rfl) rfl rfl rfl rfl ?_
  refine rgy (y_geq rfl rfl rfl) rfl rfl rfl rfl ?_
  refine ry (y_pick rfl rfl rfl) rfl rfl ?_
  refine ry (y_mov rfl rfl) rfl rfl ?_
  refine rg_splitd (d := 22) rfl (fun h5 => ?_) (fun h5 => ?_)
  ·skip
   refine rg_off rfl rfl rfl rfl rfl ?_
   refine rg_off rfl rfl rfl rfl rfl ?_
   refine rg_off rfl rfl rfl rfl rfl ?_
   refine ry (y_pick rfl rfl rfl) rfl rfl ?_
   refine reg_nil ?_
   refine fn_next ?_
   refine cw_condt rfl ?_
   refine cw_seq ?_
   refine cw_reg ?_
   refine ry (y_asg rfl rfl) rfl rfl ?_
   refine ry (y_asg rfl rfl) rfl rfl ?_
   refine ry (y_asg rfl rfl) rfl rfl ?_
   refine ry (y_asg rfl rfl) rfl rfl ?_
   refine reg_nil ?_
   refine fn_next ?_
   refine cw_ret ?_
   refine fn_then_ret ?_
   refine fn_retn (vs := [_, _, _, _]) rfl ⟨rfl, rfl, rfl, rfl, trivial⟩ rfl ?_
   exfalso; omega
  ·skip
   refine rgy (y_fa rfl rfl kfmarks2_3 rfl) rfl rfl rfl rfl ?_
   refine rgy (y_ld rfl rfl kfmarks2_2 (H3.cell (i := 0) rfl rfl)) rfl rfl rfl rfl ?_
   refine rgy (y_lss rfl rfl rfl) rfl rfl rfl rfl ?_
   refine ry (y_pick rfl rfl rfl) rfl rfl ?_
   refine reg_nil ?_
   refine fn_next ?_
   refine cw_condd rfl (fun h6 => ?_) (fun h6 => ?_)
   · exfalso; omega
   ·skip
    refine cw_skip ?_
    refine fn_next ?_
    refine cw_seq ?_
    refine cw_reg ?_
    refine ry (y_mov rfl rfl) rfl rfl ?_
    refine ry (y_fa rfl rfl kfmarks2_1 rfl) rfl rfl ?_
    refine ry (y_ld rfl rfl kfmarks2_2 (H3.cell (i := 0) rfl rfl)) rfl rfl ?_
    refine ry (y_iar (hlr.below H3.base) rfl rfl rfl kfmarks2_4 (rfl) (by omega) (Nat.mul_one _) (gs)) rfl rfl ?_
    refine ry (y_ldr (hlr.below H3.base) rfl rfl kfmarks2_5 (gs)) rfl rfl ?_
    refine ry (y_asg rfl rfl) rfl rfl ?_
    refine reg_nil ?_
    refine fn_next ?_
    refine cw_seq ?_
    refine cw_reg ?_
    refine ry (y_fa rfl rfl kfmarks2_3 rfl) rfl rfl ?_
    refine ry (y_ld rfl rfl kfmarks2_2 (H3.cell (i := 0) rfl rfl)) rfl rfl ?_
    refine ry (y_asg rfl rfl) rfl rfl ?_
    refine reg_nil ?_
    refine fn_next ?_
    refine cw_seq ?_
    refine cw_seq ?_
    refine cw_reg ?_
    refine ry (y_mov rfl rfl) rfl rfl ?_
    refine reg_op (op_range H3 rfl Tryd.underlying9 rfl) rfl rfl ?_
    rintro _ w8 ⟨b7, rfl, H9⟩
    refine reg_nil ?_
    refine fn_next ?_
    refine cw_block ?_
    refine cw_loopJ [4, 5, 6, 7, 8, 9, 10, 11, 36, 37, 38, 39, 40, 41, 42, 43, 44, 45, 46, 47, 48, 49, 50, 51, 52, 53, 54] (fun M wl ml => ∃ (p k : Nat), M = [(4, .string (bs (ls.getD y []))), (8, .int .i64 ((x - k : Nat) : Int))] ∧ HS w wl [itOb b7 (ls.getD y []) p] ∧ (k ≤ x) ∧ (PlP (ls.getD y []) k p) ∧ ml = (ls.getD y []).length + 1 - p) ⟨0, 0, rfl, (H9.pick (m := [_]) [0] rfl (by decide)), Nat.zero_le _, plP_init, rfl⟩ ⟨rfl, rfl, trivial⟩ ?_
    rintro M w10 m12 ⟨p, k, rfl, H11, hkx, hP, rfl⟩
    have hpl := hP.1
    refine cw_seq ?_
    by_cases hp : p < (ls.getD y []).length
    ·skip
     have hz := runeD_size ((ls.getD y []).drop p)
     rw [List.length_drop] at hz
     have hq := plP_lt hP hp
     refine cw_reg ?_
     refine reg_op (op_next (i := 0) H11 rfl rfl rfl (hBy) (hp) rfl) rfl rfl ?_
     rintro _ w13 ⟨rfl, H14⟩
     refine ry (y_ext rfl rfl rfl) rfl rfl ?_
     refine reg_nil ?_
     refine fn_next ?_
     refine cw_seq ?_
     refine cw_condt rfl ?_
     refine cw_skip ?_
     refine fn_next ?_
     refine cw_block ?_
     refine cw_seq ?_
     refine cw_reg ?_
     refine ry (y_ext rfl rfl rfl) rfl rfl ?_
     refine ry (y_asg rfl rfl) rfl rfl ?_
     refine reg_nil ?_
     refine fn_next ?_
     refine cw_seq ?_
     refine cw_seq ?_
     refine cw_reg ?_
     refine ry (y_mov rfl rfl) rfl rfl ?_
     refine ry (y_eql rfl rfl rfl) rfl rfl ?_
     refine reg_nil ?_
     refine fn_next ?_
     refine cw_condd rfl (fun h15 => ?_) (fun h15 => ?_)
     ·skip
      obtain rfl : k = x := by omega
      refine cw_seq ?_
      refine cw_reg ?_
      refine ry (y_mov rfl rfl) rfl rfl ?_
      refine ry (y_mov rfl rfl) rfl rfl ?_
      refine ry (y_stl rfl rfl rfl Tryd.underlying9 (rfl) (by omega)) rfl rfl ?_
      refine reg_op (op_call (decodeStr ((ls.getD y []).drop p) _ (hT.below hT.size H14.base) (drop_byt hBy) (by rw [List.length_drop]; omega)) rfl kfmarks2_6 ⟨rfl, trivial⟩) rfl rfl ?_
      rintro _ w17 ⟨rfl, e16⟩
      have H18 := H14.ext e16
      refine ry (y_mov rfl rfl) rfl rfl ?_
      refine ry (y_ext rfl rfl rfl) rfl rfl ?_
      refine ry (y_ext rfl rfl rfl) rfl rfl ?_
      refine ry (y_asg rfl rfl) rfl rfl ?_
      refine ry (y_asg rfl rfl) rfl rfl ?_
      refine reg_nil ?_
      refine fn_next ?_
      refine cw_seq ?_
      refine cw_reg ?_
      refine ry (y_mov rfl rfl) rfl rfl ?_
      refine ry (y_mov rfl rfl) rfl rfl ?_
      refine ry (y_mov rfl rfl) rfl rfl ?_
      refine ry (y_mov rfl rfl) rfl rfl ?_
      refine ry (y_add rfl rfl rfl (wi (by omega))) rfl rfl ?_
      refine ry (y_asg rfl rfl) rfl rfl ?_
      refine ry (y_asg rfl rfl) rfl rfl ?_
      refine ry (y_asg rfl rfl) rfl rfl ?_
      refine ry (y_asg rfl rfl) rfl rfl ?_
      refine reg_nil ?_
      refine fn_next ?_
      refine cw_ret ?_
      refine fn_then_ret (fn_block_ret (fn_then_ret (fn_block_ret (fn_then_ret ?_))))
      refine fn_retn (vs := [_, _, _, _]) rfl ⟨rfl, rfl, rfl, rfl, trivial⟩ rfl ?_
      exact ⟨p, by rw [Int.natCast_add]; rfl, hP, hp, H18.base⟩
     ·skip
      refine cw_skip ?_
      refine fn_next ?_
      refine cw_reg ?_
      refine ry (y_mov rfl rfl) rfl rfl ?_
      refine ry (y_sub rfl rfl rfl (show _ = ((x - (k + 1) : Nat) : Int) from (wi (by omega)).trans (by omega))) rfl rfl ?_
      refine ry (y_asg rfl rfl) rfl rfl ?_
      refine reg_nil ?_
      refine fn_block ?_
      refine fn_roundJ ⟨p + (runeD ((ls.getD y []).drop p)).2, k + 1, rfl, H14, by omega, plP_step hP hp, rfl⟩ ⟨rfl, rfl, trivial⟩ (by omega) (by repeat (first | exact kp_refl | refine kp_app rfl rfl ?_ | refine kp_cons rfl ?_)) rfl
    ·skip
     have hq := plP_end hP hp
     refine cw_reg ?_
     refine ry (y_nextend (i := 0) H11 rfl rfl rfl (hp)) rfl rfl ?_
     refine ry (y_ext rfl rfl rfl) rfl rfl ?_
     refine reg_nil ?_
     refine fn_next ?_
     refine cw_seq ?_
     refine cw_condf rfl ?_
     refine cw_exit ?_
     refine fn_then_exit (fn_then_exit (fn_block_exit ?_))
     refine fn_next ?_
     refine cw_seq ?_
     refine cw_reg ?_
     refine ry (y_asg rfl rfl) rfl rfl ?_
     refine ry (y_asg rfl rfl) rfl rfl ?_
     refine ry (y_asg rfl rfl) rfl rfl ?_
     refine ry (y_asg rfl rfl) rfl rfl ?_
     refine reg_nil ?_
     refine fn_next ?_
     refine cw_ret ?_
     refine fn_retn (vs := [_, _, _, _]) rfl ⟨rfl, rfl, rfl, rfl, trivial⟩ rfl ?_
     exfalso; omega

set_option maxRecDepth 100000 in
theorem atOut (LA : Option Addr) (nl lc : Nat) (ls : List (List Int)) (x y : Int) (w : World) (hT : Tabs w) (hlr : Rd w LA (strs ls)) (hll : ls.length = nl) (hnl : nl ≤ 1000000) (hBs : Byts ls) (hsz : ∀ s ∈ ls, s.length ≤ 1000000) (ho : y < 0 ∨ (nl : Int) ≤ y ∨ x < 0) :
    Ret Tryd.prog 19 [.slice LA nl lc, .agg #[.int .i64 x, .int .i64 y]] w (fun v w' => v = .tuple #[.int .i32 0, .int .i64 4] ∧ Below w.heap.size w w') := by
 refine ret_enter Tryd.func19 rfl rfl rfl ?_
 have H0 := HS.start w
 refine cw_seq ?_
 refine cw_reg ?_
 refine reg_op (op_box (cs := [.int _ _, .int _ _]) H0 rfl rfl rfl) rfl rfl ?_
 rintro _ w2 ⟨b1, rfl, H3⟩
 refine ry (y_asg rfl rfl) rfl rfl ?_
 refine ry (y_asg rfl rfl) rfl rfl ?_
 refine reg_nil ?_
 refine fn_next ?_
 refine cw_seq ?_
 refine cw_reg ?_
 refine ry (y_mov rfl rfl) rfl rfl ?_
 refine ry (y_ldb (i := 0) (cs := [_, _]) H3 rfl rfl kfmarks2_7 rfl rfl) rfl rfl ?_
 refine reg_op (op_call (findOut LA nl lc ls x y _ (hT.below hT.size H3.base) (hlr.below H3.base) hll hnl hBs hsz ho) rfl kfmarks2_8 ⟨rfl, rfl, trivial⟩) rfl rfl ?_
 rintro _ w5 ⟨u0, i0, j0, rfl, e4⟩
 have H6 := H3.ext e4
 refine ry (y_mov rfl rfl) rfl rfl ?_
 refine ry (y_ext rfl rfl rfl) rfl rfl ?_
 refine ry (y_ext rfl rfl rfl) rfl rfl ?_
 refine ry (y_ext rfl rfl rfl) rfl rfl ?_
 refine ry (y_ext rfl rfl rfl) rfl rfl ?_
 refine ry (y_asg rfl rfl) rfl rfl ?_
 refine ry (y_asg rfl rfl) rfl rfl ?_
 refine ry (y_asg rfl rfl) rfl rfl ?_
 refine ry (y_asg rfl rfl) rfl rfl ?_
 refine reg_nil ?_
 refine fn_next ?_
 refine cw_seq ?_
 refine cw_seq ?_
 refine cw_reg ?_
 refine ry (y_mov rfl rfl) rfl rfl ?_
 refine ry (y_not rfl rfl) rfl rfl ?_
 refine reg_nil ?_
 refine fn_next ?_
 refine cw_condt rfl ?_
 refine cw_seq ?_
 refine cw_reg ?_
 refine ry (y_asg rfl rfl) rfl rfl ?_
 refine ry (y_asg rfl rfl) rfl rfl ?_
 refine reg_nil ?_
 refine fn_next ?_
 refine cw_ret ?_
 refine fn_then_ret ?_
 refine fn_retn (vs := [_, _]) rfl ⟨rfl, rfl, trivial⟩ rfl ?_
 exact ⟨rfl, H6.base⟩

set_option maxRecDepth 100000 in
theorem atFar (LA : Option Addr) (nl lc : Nat) (ls : List (List Int)) (x y : Nat) (w : World) (hT : Tabs w) (hlr : Rd w LA (strs ls)) (hll : ls.length = nl) (hnl : nl ≤ 1000000) (hBs : Byts ls) (hsz : ∀ s ∈ ls, s.length ≤ 1000000) (hy : y < nl) (hx9 : x < 9223372036854775808) (hx : (rcs (ls.getD y [])).length ≤ x) :
    Ret Tryd.prog 19 [.slice LA nl lc, .agg #[.int .i64 (x : Int), .int .i64 (y : Int)]] w (fun v w' => v = .tuple #[.int .i32 0, .int .i64 4] ∧ Below w.heap.size w w') := by
 refine ret_enter Tryd.func19 rfl rfl rfl ?_
 have H0 := HS.start w
 refine cw_seq ?_
 refine cw_reg ?_
 refine reg_op (op_box (cs := [.int _ _, .int _ _]) H0 rfl rfl rfl) rfl rfl ?_
 rintro _ w2 ⟨b1, rfl, H3⟩
 refine ry (y_asg rfl rfl) rfl rfl ?_
 refine ry (y_asg rfl rfl) rfl rfl ?_
 refine reg_nil ?_
 refine fn_next ?_
 refine cw_seq ?_
 refine cw_reg ?_
 refine ry (y_mov rfl rfl) rfl rfl ?_
 refine ry (y_ldb (i := 0) (cs := [_, _]) H3 rfl rfl kfmarks2_7 rfl rfl) rfl rfl ?_
 refine reg_op (op_call (findFar LA nl lc ls x y _ (hT.below hT.size H3.base) (hlr.below H3.base) hll hnl hBs hsz hy hx9 hx) rfl kfmarks2_8 ⟨rfl, rfl, trivial⟩) rfl rfl ?_
 rintro _ w5 ⟨u0, i0, j0, rfl, e4⟩
 have H6 := H3.ext e4
 refine ry (y_mov rfl rfl) rfl rfl ?_
 refine ry (y_ext rfl rfl rfl) rfl rfl ?_
 refine ry (y_ext rfl rfl rfl) rfl rfl ?_
 refine ry (y_ext rfl rfl rfl) rfl rfl ?_
 refine ry (y_ext rfl rfl rfl) rfl rfl ?_
 refine ry (y_asg rfl rfl) rfl rfl ?_
 refine ry (y_asg rfl rfl) rfl rfl ?_
 refine ry (y_asg rfl rfl) rfl rfl ?_
 refine ry (y_asg rfl rfl) rfl rfl ?_
 refine reg_nil ?_
 refine fn_next ?_
 refine cw_seq ?_
 refine cw_seq ?_
 refine cw_reg ?_
 refine ry (y_mov rfl rfl) rfl rfl ?_
 refine ry (y_not rfl rfl) rfl rfl ?_
 refine reg_nil ?_
 refine fn_next ?_
 refine cw_condt rfl ?_
 refine cw_seq ?_
 refine cw_reg ?_
 refine ry (y_asg rfl rfl) rfl rfl ?_
 refine ry (y_asg rfl rfl) rfl rfl ?_
 refine reg_nil ?_
 refine fn_next ?_
 refine cw_ret ?_
 refine fn_then_ret ?_
 refine fn_retn (vs := [_, _]) rfl ⟨rfl, rfl, trivial⟩ rfl ?_
 exact ⟨rfl, H6.base⟩

set_option maxRecDepth 100000 in
set_option maxHeartbeats 1000000 in
theorem atYes (LA : Option Addr) (nl lc : Nat) (ls : List (List Int)) (x y : Nat) (w : World) (hT : Tabs w) (hlr : Rd w LA (strs ls)) (hll : ls.length = nl) (hnl : nl ≤ 1000000) (hBs : Byts ls) (hsz : ∀ s ∈ ls, s.length ≤ 1000000) (hy : y < nl) (hx : x < (rcs (ls.getD y [])).length) :
    Ret Tryd.prog 19 [.slice LA nl lc, .agg #[.int .i64 (x : Int), .int .i64 (y : Int)]] w (fun v w' => v = .tuple #[.int .i32 (if okD ((rcs (ls.getD y [])).getD x []) = true then (runeD ((rcs (ls.getD y [])).getD x [])).1 else 0), .int .i64 (if okD ((rcs (ls.getD y [])).getD x []) = true then 0 else 12)] ∧ Below w.heap.size w w') := by
 have hT0 := hT.size
 refine ret_enter Tryd.func19 rfl rfl rfl ?_
 have H0 := HS.start w
 refine cw_seq ?_
 refine cw_reg ?_
 refine reg_op (op_box (cs := [.int _ _, .int _ _]) H0 rfl rfl rfl) rfl rfl ?_
 rintro _ w2 ⟨b1, rfl, H3⟩
 refine ry (y_asg rfl rfl) rfl rfl ?_
 refine ry (y_asg rfl rfl) rfl rfl ?_
 refine reg_nil ?_
 refine fn_next ?_
 refine cw_seq ?_
 refine cw_reg ?_
 refine ry (y_mov rfl rfl) rfl rfl ?_
 refine ry (y_ldb (i := 0) (cs := [_, _]) H3 rfl rfl kfmarks2_7 rfl rfl) rfl rfl ?_
 refine reg_op (op_call (findYes LA nl lc ls x y _ (hT.below hT.size H3.base) (hlr.below H3.base) hll hnl hBs hsz hy hx) rfl kfmarks2_8 ⟨rfl, rfl, trivial⟩) rfl rfl ?_
 rintro _ w5 ⟨p, rfl, hP, hp, e4⟩
 have H6 := H3.ext e4
 have hBy := hBs.at_ (i := y) (by omega)
 have hsy := getD_len hsz (i := y) (by omega)
 have hpl := hP.1
 have hz := runeD_size ((ls.getD y []).drop p)
 rw [List.length_drop] at hz
 have hq := (plP_lt hP hp).2
 have hdt := dt_piece (s := (ls.getD y [])) (p := p) (k := (runeD ((ls.getD y []).drop p)).2)
 rw [← hq] at hdt
 have hqB := rcs_at hBy (k := x) hx
 have hql : 0 < ((rcs (ls.getD y [])).getD x []).length := by rw [hq, List.length_take, List.length_drop]; omega
 refine ry (y_mov rfl rfl) rfl rfl ?_
 refine ry (y_ext rfl rfl rfl) rfl rfl ?_
 refine ry (y_ext rfl rfl rfl) rfl rfl ?_
 refine ry (y_ext rfl rfl rfl) rfl rfl ?_
 refine ry (y_ext rfl rfl rfl) rfl rfl ?_
 refine ry (y_asg rfl rfl) rfl rfl ?_
 refine ry (y_asg rfl rfl) rfl rfl ?_
 refine ry (y_asg rfl rfl) rfl rfl ?_
 refine ry (y_asg rfl rfl) rfl rfl ?_
 refine reg_nil ?_
 refine fn_next ?_
 refine cw_seq ?_
 refine cw_seq ?_
 refine cw_reg ?_
 refine ry (y_mov rfl rfl) rfl rfl ?_
 refine ry (y_not rfl rfl) rfl rfl ?_
 refine reg_nil ?_
 refine fn_next ?_
 refine cw_condf rfl ?_
 refine cw_skip ?_
 refine fn_next ?_
 refine cw_seq ?_
 refine cw_reg ?_
 refine ry (y_mov rfl rfl) rfl rfl ?_
 refine ry (y_mov rfl rfl) rfl rfl ?_
 refine ry (y_mov rfl rfl) rfl rfl ?_
 refine ry (y_sths rfl rfl rfl rfl Tryd.underlying9 (rfl) (rfl) (by omega) (by omega)) rfl rfl ?_
 refine reg_op (op_call (decodeStr _ _ (hT.below hT.size H6.base) (by rw [hdt]; exact hqB) (by rw [hdt]; exact hql)) rfl kfmarks2_6 ⟨rfl, trivial⟩) rfl rfl ?_
 rintro _ w8 ⟨rfl, e7⟩
 have H9 := H6.ext e7
 refine ry (y_mov rfl rfl) rfl rfl ?_
 refine ry (y_ext rfl rfl rfl) rfl rfl ?_
 refine ry (y_ext rfl rfl rfl) rfl rfl ?_
 refine ry (y_asg rfl rfl) rfl rfl ?_
 refine ry (y_asg rfl rfl) rfl rfl ?_
 refine reg_nil ?_
 refine fn_next ?_
 refine cw_seq ?_
 refine cw_seq ?_
 refine cw_reg ?_
 refine ry (y_mov rfl rfl) rfl rfl ?_
 refine ry (y_eql rfl rfl rfl) rfl rfl ?_
 refine ry (y_mov rfl rfl) rfl rfl ?_
 refine rg_splitd (d := 32) rfl (fun h10 => ?_) (fun h10 => ?_)
 ·skip
  rw [hdt] at h10
  refine rgy (y_mov rfl rfl) rfl rfl rfl rfl ?_
  refine rgy (y_eql rfl rfl rfl) rfl rfl rfl rfl ?_
  refine ry (y_pick rfl rfl rfl) rfl rfl ?_
  refine reg_nil ?_
  refine fn_next ?_
  refine cw_condd rfl (fun hs1 => ?_) (fun hs1 => ?_)
  ·skip
   refine cw_seq ?_
   refine cw_reg ?_
   refine ry (y_asg rfl rfl) rfl rfl ?_
   refine ry (y_asg rfl rfl) rfl rfl ?_
   refine reg_nil ?_
   refine fn_next ?_
   refine cw_ret ?_
   refine fn_then_ret ?_
   refine fn_retn (vs := [_, _]) rfl ⟨rfl, rfl, trivial⟩ rfl ?_
   rw [hdt] at hs1
   have hk : okD ((rcs (ls.getD y [])).getD x []) = false := (okD_iff hqB hql).2 ⟨by assumption, by omega⟩
   exact ⟨by rw [hk]; rfl, H9.base⟩
  ·skip
   refine cw_skip ?_
   refine fn_next ?_
   refine cw_seq ?_
   refine cw_reg ?_
   refine ry (y_mov rfl rfl) rfl rfl ?_
   refine ry (y_asg rfl rfl) rfl rfl ?_
   refine ry (y_asg rfl rfl) rfl rfl ?_
   refine reg_nil ?_
   refine fn_next ?_
   refine cw_ret ?_
   refine fn_retn (vs := [_, _]) rfl ⟨rfl, rfl, trivial⟩ rfl ?_
   have hk : okD ((rcs (ls.getD y [])).getD x []) = true := Bool.of_not_eq_false (fun hk => by have q := (okD_iff hqB hql).1 hk; first | exact absurd q.1 (by assumption) | (rw [hdt] at hs1; omega))
   exact ⟨by rw [hk, hdt]; rfl, H9.base⟩
 ·skip
  rw [hdt] at h10
  refine rg_off rfl rfl rfl rfl rfl ?_
  refine rg_off rfl rfl rfl rfl rfl ?_
  refine ry (y_pick rfl rfl rfl) rfl rfl ?_
  refine reg_nil ?_
  refine fn_next ?_
  refine cw_condf rfl ?_
  refine cw_skip ?_
  refine fn_next ?_
  refine cw_seq ?_
  refine cw_reg ?_
  refine ry (y_mov rfl rfl) rfl rfl ?_
  refine ry (y_asg rfl rfl) rfl rfl ?_
  refine ry (y_asg rfl rfl) rfl rfl ?_
  refine reg_nil ?_
  refine fn_next ?_
  refine cw_ret ?_
  refine fn_retn (vs := [_, _]) rfl ⟨rfl, rfl, trivial⟩ rfl ?_
  have hk : okD ((rcs (ls.getD y [])).getD x []) = true := Bool.of_not_eq_false (fun hk => by have q := (okD_iff hqB hql).1 hk; first | exact absurd q.1 (by assumption) | (rw [hdt] at hs1; omega))
  exact ⟨by rw [hk, hdt]; rfl, H9.base⟩

set_option maxRecDepth 100000 in
theorem cloneStr (A : Option Addr) (n cap : Nat) (xs : List Value) (w : World) (h : Rd w A xs) (hl : xs.length = n * 1) (h1 : xs.all Value.oneCell' = true) (hn : n ≤ 16777216) :
    Ret Tryd.prog 46 [.slice A n cap] w (fun v w' => ∃ A' cap', v = .slice A' n cap' ∧ HS w w' [.row A' n cap' xs 9 1]) := by
 refine ret_enter Tryd.func46 rfl rfl rfl ?_
 have H0 := HS.start w
 refine cw_seq ?_
 refine cw_reg ?_
 refine ry (y_asg rfl rfl) rfl rfl ?_
 refine reg_nil ?_
 refine fn_next ?_
 refine cw_seq ?_
 refine cw_seq ?_
 refine cw_reg ?_
 refine ry (y_mov rfl rfl) rfl rfl ?_
 refine ry (y_eqlnil rfl Tryd.underlying52 rfl rfl) rfl rfl ?_
 refine reg_nil ?_
 refine fn_next ?_
 refine cw_cond rfl (fun hA => ?_) (fun hA => ?_)
 ·skip
  obtain rfl := Option.isNone_iff_eq_none.1 hA
  obtain ⟨hz, hn⟩ := rd_zero h hl (by decide) rfl
  subst hz; subst hn
  refine cw_seq ?_
  refine cw_reg ?_
  refine ry (y_asg rfl rfl) rfl rfl ?_
  refine reg_nil ?_
  refine fn_next ?_
  refine cw_ret ?_
  refine fn_then_ret ?_
  refine fn_ret1 rfl rfl ?_
  exact ⟨none, 0, rfl, H0.nilrow _ _⟩
 ·skip
  refine cw_skip ?_
  refine fn_next ?_
  refine cw_seq ?_
  refine cw_reg ?_
  refine reg_op (op_lit (parts := []) (vs := []) (cs := []) H0 rfl Tryd.underlying52 kfmarks2_9 rfl trivial rfl rfl) rfl rfl ?_
  rintro _ w3 ⟨b2, rfl, H4⟩
  have H5 := H4.asrow (m := 0) (size := 1) rfl (by decide)
  refine ry (y_mov rfl rfl) rfl rfl ?_
  refine reg_op (op_app (i := 0) (k := 0) (m := n) (ys := xs) (size := 1) H5 rfl rfl rfl rfl (h.below H5.base) (hl) (h1) Tryd.underlying52 kfmarks2_10 rfl rfl (by unfold maxLen; omega) (by omega)) rfl rfl ?_
  rintro _ w8 ⟨A6, c7, rfl, H9⟩
  refine ry (y_asg rfl rfl) rfl rfl ?_
  refine reg_nil ?_
  refine fn_next ?_
  refine cw_ret ?_
  refine fn_ret1 rfl rfl ?_
  simp only [Nat.zero_add, List.nil_append] at *
  exact ⟨_, _, rfl, H9⟩

set_option maxRecDepth 100000 in
theorem markForm (LA : Option Addr) (nl lc : Nat) (x y r : Int) (w : World) (hs : ¬ SgnP r) :
    Ret Tryd.prog 20 [.slice LA nl lc, .agg #[.int .i64 x, .int .i64 y], .int .i32 r] w (fun v w' => v = .tuple #[.slice none 0 0, .int .i64 13] ∧ Below w.heap.size w w') := by
 refine ret_enter Tryd.func20 rfl rfl rfl ?_
 have H0 := HS.start w
 refine cw_seq ?_
 refine cw_reg ?_
 refine reg_op (op_box (cs := [.int _ _, .int _ _]) H0 rfl rfl rfl) rfl rfl ?_
 rintro _ w2 ⟨b1, rfl, H3⟩
 refine ry (y_asg rfl rfl) rfl rfl ?_
 refine ry (y_asg rfl rfl) rfl rfl ?_
 refine reg_nil ?_
 refine fn_next ?_
 refine cw_seq ?_
 refine cw_seq ?_
 refine cw_reg ?_
 refine ry (y_mov rfl rfl) rfl rfl ?_
 refine reg_op (op_call (tintSign r _) rfl kfmarks2_11 ⟨rfl, trivial⟩) rfl rfl ?_
 rintro _ w5 ⟨rfl, e4⟩
 have H6 := H3.ext e4
 refine ry (y_notd rfl rfl) rfl rfl ?_
 refine reg_nil ?_
 refine fn_next ?_
 refine cw_condd rfl (fun h7 => ?_) (fun h7 => ?_)
 ·skip
  refine cw_seq ?_
  refine cw_reg ?_
  refine ry (y_asg rfl rfl) rfl rfl ?_
  refine ry (y_asg rfl rfl) rfl rfl ?_
  refine reg_nil ?_
  refine fn_next ?_
  refine cw_ret ?_
  refine fn_then_ret ?_
  refine fn_retn (vs := [_, _]) rfl ⟨rfl, rfl, trivial⟩ rfl ?_
  exact ⟨rfl, H6.base⟩
 · exact absurd (Classical.not_not.1 h7) hs

set_option maxRecDepth 100000 in
theorem markOut (LA : Option Addr) (nl lc : Nat) (ls : List (List Int)) (x y : Int) (r : Int) (w : World) (hT : Tabs w) (hlr : Rd w LA (strs ls)) (hll : ls.length = nl) (hnl : nl ≤ 1000000) (hBs : Byts ls) (hsz : ∀ s ∈ ls, s.length ≤ 1000000) (hs : SgnP r) (ho : y < 0 ∨ (nl : Int) ≤ y ∨ x < 0) :
    Ret Tryd.prog 20 [.slice LA nl lc, .agg #[.int .i64 x, .int .i64 y], .int .i32 r] w (fun v w' => v = .tuple #[.slice none 0 0, .int .i64 4] ∧ Below w.heap.size w w') := by
 refine ret_enter Tryd.func20 rfl rfl rfl ?_
 have H0 := HS.start w
 refine cw_seq ?_
 refine cw_reg ?_
 refine reg_op (op_box (cs := [.int _ _, .int _ _]) H0 rfl rfl rfl) rfl rfl ?_
 rintro _ w2 ⟨b1, rfl, H3⟩
 refine ry (y_asg rfl rfl) rfl rfl ?_
 refine ry (y_asg rfl rfl) rfl rfl ?_
 refine reg_nil ?_
 refine fn_next ?_
 refine cw_seq ?_
 refine cw_seq ?_
 refine cw_reg ?_
 refine ry (y_mov rfl rfl) rfl rfl ?_
 refine reg_op (op_call (tintSign r _) rfl kfmarks2_11 ⟨rfl, trivial⟩) rfl rfl ?_
 rintro _ w5 ⟨rfl, e4⟩
 have H6 := H3.ext e4
 refine ry (y_notd rfl rfl) rfl rfl ?_
 refine reg_nil ?_
 refine fn_next ?_
 refine cw_condd rfl (fun h7 => ?_) (fun h7 => ?_)
 · exact absurd hs h7
 ·skip
  refine cw_skip ?_
  refine fn_next ?_
  refine cw_seq ?_
  refine cw_reg ?_
  refine ry (y_mov rfl rfl) rfl rfl ?_
  refine ry (y_ldb (i := 0) (cs := [_, _]) H6 rfl rfl kfmarks2_7 rfl rfl) rfl rfl ?_
  refine reg_op (op_call (findOut LA nl lc ls x y _ (hT.below hT.size H6.base) (hlr.below H6.base) hll hnl hBs hsz ho) rfl kfmarks2_8 ⟨rfl, rfl, trivial⟩) rfl rfl ?_
  rintro _ w9 ⟨u0, i0, j0, rfl, e8⟩
  have H10 := H6.ext e8
  refine ry (y_mov rfl rfl) rfl rfl ?_
  refine ry (y_ext rfl rfl rfl) rfl rfl ?_
  refine ry (y_ext rfl rfl rfl) rfl rfl ?_
  refine ry (y_ext rfl rfl rfl) rfl rfl ?_
  refine ry (y_ext rfl rfl rfl) rfl rfl ?_
  refine ry (y_asg rfl rfl) rfl rfl ?_
  refine ry (y_asg rfl rfl) rfl rfl ?_
  refine ry (y_asg rfl rfl) rfl rfl ?_
  refine ry (y_asg rfl rfl) rfl rfl ?_
  refine reg_nil ?_
  refine fn_next ?_
  refine cw_seq ?_
  refine cw_seq ?_
  refine cw_reg ?_
  refine ry (y_mov rfl rfl) rfl rfl ?_
  refine ry (y_not rfl rfl) rfl rfl ?_
  refine reg_nil ?_
  refine fn_next ?_
  refine cw_condt rfl ?_
  refine cw_seq ?_
  refine cw_reg ?_
  refine ry (y_asg rfl rfl) rfl rfl ?_
  refine ry (y_asg rfl rfl) rfl rfl ?_
  refine reg_nil ?_
  refine fn_next ?_
  refine cw_ret ?_
  refine fn_then_ret ?_
  refine fn_retn (vs := [_, _]) rfl ⟨rfl, rfl, trivial⟩ rfl ?_
  exact ⟨rfl, H10.base⟩

set_option maxRecDepth 100000 in
theorem markFar (LA : Option Addr) (nl lc : Nat) (ls : List (List Int)) (x y : Nat) (r : Int) (w : World) (hT : Tabs w) (hlr : Rd w LA (strs ls)) (hll : ls.length = nl) (hnl : nl ≤ 1000000) (hBs : Byts ls) (hsz : ∀ s ∈ ls, s.length ≤ 1000000) (hs : SgnP r) (hy : y < nl) (hx9 : x < 9223372036854775808) (hx : (rcs (ls.getD y [])).length ≤ x) :
    Ret Tryd.prog 20 [.slice LA nl lc, .agg #[.int .i64 (x : Int), .int .i64 (y : Int)], .int .i32 r] w (fun v w' => v = .tuple #[.slice none 0 0, .int .i64 4] ∧ Below w.heap.size w w') := by
 refine ret_enter Tryd.func20 rfl rfl rfl ?_
 have H0 := HS.start w
 refine cw_seq ?_
 refine cw_reg ?_
 refine reg_op (op_box (cs := [.int _ _, .int _ _]) H0 rfl rfl rfl) rfl rfl ?_
 rintro _ w2 ⟨b1, rfl, H3⟩
 refine ry (y_asg rfl rfl) rfl rfl ?_
 refine ry (y_asg rfl rfl) rfl rfl ?_
 refine reg_nil ?_
 refine fn_next ?_
 refine cw_seq ?_
 refine cw_seq ?_
 refine cw_reg ?_
 refine ry (y_mov rfl rfl) rfl rfl ?_
 refine reg_op (op_call (tintSign r _) rfl kfmarks2_11 ⟨rfl, trivial⟩) rfl rfl ?_
 rintro _ w5 ⟨rfl, e4⟩
 have H6 := H3.ext e4
 refine ry (y_notd rfl rfl) rfl rfl ?_
 refine reg_nil ?_
 refine fn_next ?_
 refine cw_condd rfl (fun h7 => ?_) (fun h7 => ?_)
 · exact absurd hs h7
 ·skip
  refine cw_skip ?_
  refine fn_next ?_
  refine cw_seq ?_
  refine cw_reg ?_
  refine ry (y_mov rfl rfl) rfl rfl ?_
  refine ry (y_ldb (i := 0) (cs := [_, _]) H6 rfl rfl kfmarks2_7 rfl rfl) rfl rfl ?_
  refine reg_op (op_call (findFar LA nl lc ls x y _ (hT.below hT.size H6.base) (hlr.below H6.base) hll hnl hBs hsz hy hx9 hx) rfl kfmarks2_8 ⟨rfl, rfl, trivial⟩) rfl rfl ?_
  rintro _ w9 ⟨u0, i0, j0, rfl, e8⟩
  have H10 := H6.ext e8
  refine ry (y_mov rfl rfl) rfl rfl ?_
  refine ry (y_ext rfl rfl rfl) rfl rfl ?_
  refine ry (y_ext rfl rfl rfl) rfl rfl ?_
  refine ry (y_ext rfl rfl rfl) rfl rfl ?_
  refine ry (y_ext rfl rfl rfl) rfl rfl ?_
  refine ry (y_asg rfl rfl) rfl rfl ?_
  refine ry (y_asg rfl rfl) rfl rfl ?_
  refine ry (y_asg rfl rfl) rfl rfl ?_
  refine ry (y_asg rfl rfl) rfl rfl ?_
  refine reg_nil ?_
  refine fn_next ?_
  refine cw_seq ?_
  refine cw_seq ?_
  refine cw_reg ?_
  refine ry (y_mov rfl rfl) rfl rfl ?_
  refine ry (y_not rfl rfl) rfl rfl ?_
  refine reg_nil ?_
  refine fn_next ?_
  refine cw_condt rfl ?_
  refine cw_seq ?_
  refine cw_reg ?_
  refine ry (y_asg rfl rfl) rfl rfl ?_
  refine ry (y_asg rfl rfl) rfl rfl ?_
  refine reg_nil ?_
  refine fn_next ?_
  refine cw_ret ?_
  refine fn_then_ret ?_
  refine fn_retn (vs := [_, _]) rfl ⟨rfl, rfl, trivial⟩ rfl ?_
  exact ⟨rfl, H10.base⟩

set_option maxRecDepth 100000 in
set_option maxHeartbeats 2000000 in
theorem markYes (LA : Option Addr) (nl lc : Nat) (ls : List (List Int)) (x y : Nat) (r : Int) (w : World) (hT : Tabs w) (hlr : Rd w LA (strs ls)) (hll : ls.length = nl) (hnl : nl ≤ 1000000) (hBs : Byts ls) (hsz : ∀ s ∈ ls, s.length ≤ 1000000) (hs : SgnP r) (hy : y < nl) (hx : x < (rcs (ls.getD y [])).length) :
    Ret Tryd.prog 20 [.slice LA nl lc, .agg #[.int .i64 (x : Int), .int .i64 (y : Int)], .int .i32 r] w (fun v w' => ∃ A c, v = .tuple #[.slice A nl c, .int .i64 0] ∧ HS w w' [.row A nl c (strs (ls.set y (((rcs (ls.getD y [])).set x (encB r)).flatten))) 9 1]) := by
 have hT0 := hT.size
 have he3 := encB_len r
 refine ret_enter Tryd.func20 rfl rfl rfl ?_
 have H0 := HS.start w
 refine cw_seq ?_
 refine cw_reg ?_
 refine reg_op (op_box (cs := [.int _ _, .int _ _]) H0 rfl rfl rfl) rfl rfl ?_
 rintro _ w2 ⟨b1, rfl, H3⟩
 refine ry (y_asg rfl rfl) rfl rfl ?_
 refine ry (y_asg rfl rfl) rfl rfl ?_
 refine reg_nil ?_
 refine fn_next ?_
 refine cw_seq ?_
 refine cw_seq ?_
 refine cw_reg ?_
 refine ry (y_mov rfl rfl) rfl rfl ?_
 refine reg_op (op_call (tintSign r _) rfl kfmarks2_11 ⟨rfl, trivial⟩) rfl rfl ?_
 rintro _ w5 ⟨rfl, e4⟩
 have H6 := H3.ext e4
 refine ry (y_notd rfl rfl) rfl rfl ?_
 refine reg_nil ?_
 refine fn_next ?_
 refine cw_condd rfl (fun h7 => ?_) (fun h7 => ?_)
 · exact absurd hs h7
 ·skip
  refine cw_skip ?_
  refine fn_next ?_
  refine cw_seq ?_
  refine cw_reg ?_
  refine ry (y_mov rfl rfl) rfl rfl ?_
  refine ry (y_ldb (i := 0) (cs := [_, _]) H6 rfl rfl kfmarks2_7 rfl rfl) rfl rfl ?_
  refine reg_op (op_call (findYes LA nl lc ls x y _ (hT.below hT.size H6.base) (hlr.below H6.base) hll hnl hBs hsz hy hx) rfl kfmarks2_8 ⟨rfl, rfl, trivial⟩) rfl rfl ?_
  rintro _ w9 ⟨p, rfl, hP, hp, e8⟩
  have H10 := H6.ext e8
  have hBy := hBs.at_ (i := y) (by omega)
  have hsy := getD_len hsz (i := y) (by omega)
  have hpl := hP.1
  have hz := runeD_size ((ls.getD y []).drop p)
  rw [List.length_drop] at hz
  have hq := (plP_lt hP hp).2
  have hdt := dt_piece (s := (ls.getD y [])) (p := p) (k := (runeD ((ls.getD y []).drop p)).2)
  rw [← hq] at hdt
  have hqB := rcs_at hBy (k := x) hx
  have hql : 0 < ((rcs (ls.getD y [])).getD x []).length := by rw [hq, List.length_take, List.length_drop]; omega
  refine ry (y_mov rfl rfl) rfl rfl ?_
  refine ry (y_ext rfl rfl rfl) rfl rfl ?_
  refine ry (y_ext rfl rfl rfl) rfl rfl ?_
  refine ry (y_ext rfl rfl rfl) rfl rfl ?_
  refine ry (y_ext rfl rfl rfl) rfl rfl ?_
  refine ry (y_asg rfl rfl) rfl rfl ?_
  refine ry (y_asg rfl rfl) rfl rfl ?_
  refine ry (y_asg rfl rfl) rfl rfl ?_
  refine ry (y_asg rfl rfl) rfl rfl ?_
  refine reg_nil ?_
  refine fn_next ?_
  refine cw_seq ?_
  refine cw_seq ?_
  refine cw_reg ?_
  refine ry (y_mov rfl rfl) rfl rfl ?_
  refine ry (y_not rfl rfl) rfl rfl ?_
  refine reg_nil ?_
  refine fn_next ?_
  refine cw_condf rfl ?_
  refine cw_skip ?_
  refine fn_next ?_
  refine cw_seq ?_
  refine cw_reg ?_
  refine ry (y_mov rfl rfl) rfl rfl ?_
  refine reg_op (op_call (cloneStr LA nl lc (strs ls) _ (hlr.below H10.base) (by rw [strs_len, hll, Nat.mul_one]) strs_one (by omega)) rfl kfmarks2_12 ⟨rfl, trivial⟩) rfl rfl ?_
  rintro _ w12 ⟨A14, c15, rfl, k11⟩
  have H13 := H10.call k11
  have hAd := H13.addr (i := 0) rfl (by omega)
  refine ry (y_asg rfl rfl) rfl rfl ?_
  refine reg_nil ?_
  refine fn_next ?_
  refine cw_seq ?_
  refine cw_draw H13 [0, 1, 2, 3, 4, 5, 6, 7, 8, 9, 10, 11, 12, 13] [14] (fun X HX => (HX.pick (m := [_]) [1] rfl (by decide))) (by kernel_rfl) (by kernel_rfl) (by rfl) ?_
  simp only [pick, List.getElem?_cons_succ, List.getElem?_cons_zero]
  refine hk_y (fun Y HY => y_mov rfl rfl) rfl rfl ?_
  refine hk_y (fun Y HY => y_fa rfl rfl kfmarks2_1 rfl) rfl rfl ?_
  refine hk_y (fun Y HY => y_ld rfl rfl kfmarks2_2 (HY.cell (i := 0) rfl rfl)) rfl rfl ?_
  refine hk_y (fun Y HY => y_mov rfl rfl) rfl rfl ?_
  refine hk_y (fun Y HY => y_mov rfl rfl) rfl rfl ?_
  refine hk_y (fun Y HY => y_sth rfl rfl rfl Tryd.underlying9 (rfl) (by omega)) rfl rfl ?_
  refine hk_y (fun Y HY => y_mov rfl rfl) rfl rfl ?_
  refine hk_y (fun Y HY => y_rstr rfl Tryd.underlying21 Tryd.underlying9 rfl (hs)) rfl rfl ?_
  refine hk_y (fun Y HY => y_strcat rfl rfl rfl (by rw [List.length_take]; omega)) rfl rfl ?_
  refine hk_y (fun Y HY => y_mov rfl rfl) rfl rfl ?_
  refine hk_y (fun Y HY => y_mov rfl rfl) rfl rfl ?_
  refine hk_y (fun Y HY => y_stl rfl rfl rfl Tryd.underlying9 (rfl) (by omega)) rfl rfl ?_
  refine hk_y (fun Y HY => y_strcat rfl rfl rfl (by rw [List.length_append, List.length_take, List.length_drop]; omega)) rfl rfl ?_
  refine hk_y (fun Y HY => y_iae (hAd) rfl rfl rfl kfmarks2_4 (rfl) (by omega) (Nat.mul_one _)) rfl rfl ?_
  refine hk_nil ?_
  intro w16 H17
  refine tv_op (op_ste (i := 0) (vs := [.string _]) H17 rfl rfl rfl rfl rfl kfmarks2_13 rfl (by rw [strs_len]; exact (show y + 1 ≤ ls.length by omega)) rfl rfl) rfl rfl ?_
  rintro _ w18 H19
  refine ⟨(H19.pick (m := [_]) [1] rfl (by decide)), fun w20 e22 => ?_⟩
  have H21 := H19.ext e22
  refine tv_nil ?_
  refine fn_next ?_
  refine cw_seq ?_
  refine cw_reg ?_
  refine ry (y_mov rfl rfl) rfl rfl ?_
  refine ry (y_asg rfl rfl) rfl rfl ?_
  refine ry (y_asg rfl rfl) rfl rfl ?_
  refine reg_nil ?_
  refine fn_next ?_
  refine cw_ret ?_
  refine fn_retn (vs := [_, _]) rfl ⟨rfl, rfl, trivial⟩ rfl ?_
  have hst := plP_set hP hp (encB r)
  refine ⟨_, _, rfl, ?_⟩
  rw [hst, ← strs_set]
  exact (H21.pick (m := [_]) [0] rfl (by decide))

end Go.Proofs.YtgkkbeomhkggjaaDoor
