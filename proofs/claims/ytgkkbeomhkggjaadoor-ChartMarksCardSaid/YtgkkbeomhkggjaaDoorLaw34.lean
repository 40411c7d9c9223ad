/- Layer 34: what its laws stand on; ChartReads. -/
import Derived.Test.YtgkkbeomhkggjaaDoorDraw1
import Derived.Test.YtgkkbeomhkggjaaDoorReads2
import Derived.Test.YtgkkbeomhkggjaaDoorLaw9a
import Derived.Test.YtgkkbeomhkggjaaDoorElems34
set_option linter.unusedVariables false
set_option linter.unusedSimpArgs false
namespace Go.Proofs.YtgkkbeomhkggjaaDoor
open Go Go.RowKit
theorem kflaw34_1 : elB Tryd.prog 52 1 = true := by kernel_rfl
theorem kflaw34_2 : oneB Tryd.prog 9 = true := by kernel_rfl
theorem kflaw34_3 : (Tryd.prog.info? 86).bind (fun i => i.zero.map Value.cells) = some (List.toArray [(.int .i64 0), (.int .i32 0)]) := by kernel_rfl
theorem kflaw34_4 : (Tryd.prog.info? 86).map (fun i => (i.size, i.zero.map Value.cells)) = some (2, some (List.toArray [(.int .i64 0), (.int .i32 0)])) := by kernel_rfl
theorem kflaw34_5 : (Tryd.prog.info? 2).map (fun i => (i.size, i.zero.map Value.cells)) = some (1, some (List.toArray [(.int .i64 0)])) := by kernel_rfl
theorem kflaw34_6 : callB Tryd.prog 25 = true := by kernel_rfl
theorem kflaw34_7 : callB Tryd.prog 39 = true := by kernel_rfl
theorem kflaw34_8 : callB Tryd.prog 38 = true := by kernel_rfl
theorem kflaw34_9 : callB Tryd.prog 40 = true := by kernel_rfl
theorem kflaw34_10 : callB Tryd.prog 41 = true := by kernel_rfl
theorem kflaw34_11 : callB Tryd.prog 42 = true := by kernel_rfl
theorem kflaw34_12 : callB Tryd.prog 17 = true := by kernel_rfl
theorem kflaw34_13 : callB Tryd.prog 18 = true := by kernel_rfl
theorem kflaw34_15 : (Tryd.prog.info? 27).bind (fun i => i.zero.map Value.cells) = some (List.toArray [(.int .i64 0), (.int .i64 0), (.slice none 0 0)]) := by kernel_rfl
theorem kflaw34_16 : szB Tryd.prog 27 3 = true := by kernel_rfl
theorem kflaw34_17 : aggB Tryd.prog 27 3 = true := by kernel_rfl
theorem aw34 : fromC ((3 : Nat) : Int) ((1 : Nat) : Int) [3, -2, -9] = 0 ∧ gvalV [3, -2, -9] 3 1 ((0 : Nat) : Int) ((0 : Nat) : Int) ((2 : Nat) : Int) ((0 : Nat) : Int) = [3, -2, -9] ∧ withinC ((0 : Nat) : Int) ((0 : Nat) : Int) ((2 : Nat) : Int) ((0 : Nat) : Int) ((3 : Nat) : Int) ((1 : Nat) : Int) = 0 ∧ rgtB [⟨-5, 46⟩, ⟨0, 111⟩] = true ∧ drawL [⟨-5, 46⟩, ⟨0, 111⟩] 3 [3, -2, -9] 1 = [[111, 46, 46]] ∧ readM [⟨-5, 46⟩, ⟨0, 111⟩] [[111, 46, 46]] = (0, 3, [0, -5, -5]) := by decide +kernel
theorem aw34b : Byt [111, 46, 46] := fun z hz => by simp only [List.mem_cons, List.not_mem_nil, or_false] at hz; omega
theorem ln_one {q : List (List Int)} {k : Nat} (h : ∀ s ∈ q, s.length ≤ k) {i : Nat} (hi : i < q.length) : (q.getD i []).length ≤ k := getD_len h hi

set_option maxRecDepth 100000 in
theorem lLong34 (LA : Option Addr) (nl lc : Nat) (ls : List (List Int)) (m : Int) (w : World) (hlr : Rd w LA (strs ls)) (hll : ls.length = nl) :
    Ret Tryd.prog 18 [.slice LA nl lc, .int .i64 m] w (fun v w' => ∃ r : Bool, v = .bool r ∧ (r = false → nl ≤ 100 ∧ ∀ j, j < nl → ((ls.getD j []).length : Int) ≤ m) ∧ Below w.heap.size w w') := by
 refine ret_enter Tryd.func18 rfl rfl rfl ?_
 have H0 := HS.start w
 refine cw_seq ?_
 refine cw_reg ?_
 refine ry (y_asg rfl rfl) rfl rfl ?_
 refine reg_nil ?_
 refine fn_next ?_
 refine cw_seq ?_
 refine cw_seq ?_
 refine cw_reg ?_
 refine ry (y_mov rfl rfl) rfl rfl ?_
 refine ry (y_len rfl Tryd.underlying52 rfl) rfl rfl ?_
 refine ry (y_gtr rfl rfl rfl) rfl rfl ?_
 refine reg_nil ?_
 refine fn_next ?_
 refine cw_condd rfl (fun h1 => ?_) (fun h1 => ?_)
 ·skip
  refine cw_seq ?_
  refine cw_reg ?_
  refine ry (y_asg rfl rfl) rfl rfl ?_
  refine reg_nil ?_
  refine fn_next ?_
  refine cw_ret ?_
  refine fn_then_ret ?_
  refine fn_ret1 rfl rfl ?_
  exact ⟨true, rfl, (fun h => by cases h), H0.base⟩
 ·skip
  refine cw_skip ?_
  refine fn_next ?_
  refine cw_seq ?_
  refine cw_seq ?_
  refine cw_reg ?_
  refine ry (y_asg rfl rfl) rfl rfl ?_
  refine reg_nil ?_
  refine fn_next ?_
  refine cw_block ?_
  refine cw_loopJ [4, 5, 9, 10, 11, 12, 13, 14, 15, 16, 17, 18, 19, 20, 21] (fun M wl ml => ∃ (i : Nat), M = [(5, .int .i64 (i : Int))] ∧ HS w wl [] ∧ (i ≤ nl) ∧ (∀ j, j < i → ((ls.getD j []).length : Int) ≤ m) ∧ ml = nl + 1 - i) ⟨0, rfl, H0, Nat.zero_le _, fun j h => absurd h (Nat.not_lt_zero _), rfl⟩ ⟨rfl, trivial⟩ ?_
  rintro M w2 m4 ⟨i, rfl, H3, hin, hall, rfl⟩
  refine cw_seq ?_
  refine cw_seq ?_
  refine cw_reg ?_
  refine ry (y_mov rfl rfl) rfl rfl ?_
  refine ry (y_mov rfl rfl) rfl rfl ?_
  refine ry (y_len rfl Tryd.underlying52 rfl) rfl rfl ?_
  refine ry (y_lss rfl rfl rfl) rfl rfl ?_
  refine reg_nil ?_
  refine fn_next ?_
  refine cw_condd rfl (fun h5 => ?_) (fun h5 => ?_)
  ·skip
   have gs := strs_get (ls := ls) (i := i) (by omega)
   refine cw_skip ?_
   refine fn_next ?_
   refine cw_seq ?_
   refine cw_block ?_
   refine cw_seq ?_
   refine cw_reg ?_
   refine ry (y_mov rfl rfl) rfl rfl ?_
   refine ry (y_mov rfl rfl) rfl rfl ?_
   refine ry (y_iar (hlr.below H3.base) rfl rfl rfl kflaw34_1 (rfl) (by omega) (Nat.mul_one _) (gs)) rfl rfl ?_
   refine ry (y_ldr (hlr.below H3.base) rfl rfl kflaw34_2 (gs)) rfl rfl ?_
   refine ry (y_lenB rfl Tryd.underlying9 rfl) rfl rfl ?_
   refine ry (y_mov rfl rfl) rfl rfl ?_
   refine ry (y_gtr rfl rfl rfl) rfl rfl ?_
   refine reg_nil ?_
   refine fn_next ?_
   refine cw_condd rfl (fun h6 => ?_) (fun h6 => ?_)
   ·skip
    refine cw_seq ?_
    refine cw_reg ?_
    refine ry (y_asg rfl rfl) rfl rfl ?_
    refine reg_nil ?_
    refine fn_next ?_
    refine cw_ret ?_
    refine fn_block_ret (fn_then_ret (fn_then_ret (fn_block_ret (fn_then_ret ?_))))
    refine fn_ret1 rfl rfl ?_
    exact ⟨true, rfl, (fun h => by cases h), H3.base⟩
   ·skip
    refine cw_skip ?_
    refine fn_block ?_
    refine fn_next ?_
    refine cw_reg ?_
    refine ry (y_mov rfl rfl) rfl rfl ?_
    refine ry (y_add rfl rfl rfl (wi (by omega))) rfl rfl ?_
    refine ry (y_asg rfl rfl) rfl rfl ?_
    refine reg_nil ?_
    refine fn_roundJ ⟨i + 1, rfl, H3, by omega, fun j hj => by rcases Nat.lt_succ_iff_lt_or_eq.1 hj with q | rfl; exact hall j q; omega, rfl⟩ ⟨rfl, trivial⟩ (by omega) (by repeat (first | exact kp_refl | refine kp_app rfl rfl ?_ | refine kp_cons rfl ?_)) rfl
  ·skip
   refine cw_exit ?_
   refine fn_then_exit (fn_then_exit (fn_block_exit ?_))
   refine fn_next ?_
   refine cw_seq ?_
   refine cw_reg ?_
   refine ry (y_asg rfl rfl) rfl rfl ?_
   refine reg_nil ?_
   refine fn_next ?_
   refine cw_ret ?_
   refine fn_ret1 rfl rfl ?_
   exact ⟨false, rfl, fun _ => ⟨by omega, fun j hj => hall j (by omega)⟩, H3.base⟩

set_option maxRecDepth 100000 in
set_option maxHeartbeats 1000000 in
theorem chartAwake  (w : World) :
    Ret Tryd.prog 17 [] w (fun z w' => z = .bool true ∧ Below w.heap.size w w') := by
 obtain ⟨e1, e2, e3, e4, e5, e6⟩ := aw34
 refine ret_enter Tryd.func17 rfl rfl rfl ?_
 have H0 := HS.start w
 refine cw_seq ?_
 refine cw_reg ?_
 refine ry (y_asg rfl rfl) rfl rfl ?_
 refine reg_nil ?_
 refine fn_next ?_
 refine cw_seq ?_
 refine cw_reg ?_
 refine ry (y_build (places := [(0, 1), (1, 1)]) (parts := [(0, _), (1, _)]) (vs := [(0, _), (1, _)]) (cs := [.int _ _, .int _ _]) rfl Tryd.underlying86 (by kernel_rfl) kflaw34_3 rfl ⟨rfl, rfl, trivial⟩ rfl) rfl rfl ?_
 refine ry (y_build (places := [(0, 1), (1, 1)]) (parts := [(0, _), (1, _)]) (vs := [(0, _), (1, _)]) (cs := [.int _ _, .int _ _]) rfl Tryd.underlying86 (by kernel_rfl) kflaw34_3 rfl ⟨rfl, rfl, trivial⟩ rfl) rfl rfl ?_
 refine reg_op (op_lit (parts := [(0, _), (1, _)]) (vs := [(0, _), (1, _)]) (cs := [.int _ _, .int _ _, .int _ _, .int _ _]) H0 rfl Tryd.underlying87 kflaw34_4 rfl ⟨rfl, rfl, trivial⟩ rfl rfl) rfl rfl ?_
 rintro _ w2 ⟨b1, rfl, H3⟩
 have H4 := H3.asrow (m := 2) (size := 2) rfl (by decide)
 refine ry (y_asg rfl rfl) rfl rfl ?_
 refine reg_nil ?_
 refine fn_next ?_
 refine cw_seq ?_
 refine cw_reg ?_
 refine reg_op (op_lit (parts := [(0, _), (1, _), (2, _)]) (vs := [(0, _), (1, _), (2, _)]) (cs := [.int _ _, .int _ _, .int _ _]) H4 rfl Tryd.underlying22 kflaw34_5 rfl ⟨rfl, rfl, rfl, trivial⟩ rfl rfl) rfl rfl ?_
 rintro _ w6 ⟨b5, rfl, H7⟩
 have H8 := H7.asrow (m := 3) (size := 1) rfl (by decide)
 refine reg_op (op_call (gFrom_ok 3 1 [3, -2, -9] _ 3 _ _ (H8.rd (i := 0) rfl) rfl (by decide) ⟨by decide, by decide, by decide, by decide⟩ e1) rfl kflaw34_6 ⟨rfl, rfl, rfl, trivial⟩) rfl rfl ?_
 rintro _ w10 ⟨g12, bl13, rfl, k9⟩
 have H11 := H8.call k9
 refine ry (y_mov rfl rfl) rfl rfl ?_
 refine ry (y_ext rfl rfl rfl) rfl rfl ?_
 refine ry (y_ext rfl rfl rfl) rfl rfl ?_
 refine ry (y_asg rfl rfl) rfl rfl ?_
 refine ry (y_asg rfl rfl) rfl rfl ?_
 refine reg_nil ?_
 refine fn_next ?_
 refine cw_seq ?_
 refine cw_reg ?_
 refine ry (y_mov rfl rfl) rfl rfl ?_
 refine ry (y_mov rfl rfl) rfl rfl ?_
 refine reg_op (op_call (gAll g12 3 1 ([3, -2, -9])  _ (H11.rdg (i := 0) rfl)) rfl kflaw34_7 ⟨rfl, trivial⟩) rfl rfl ?_
 rintro _ w15 ⟨rfl, e14⟩
 have H16 := H11.ext e14
 refine ry (y_mov rfl rfl) rfl rfl ?_
 refine reg_op (op_call (drawOk g12 3 1 [3, -2, -9] 0 0 2 0 _ 2 _ [⟨-5, 46⟩, ⟨0, 111⟩] [3, -2, -9] _ (H16.rdg (i := 0) rfl) e3 (by decide) (by decide) (by decide) (by decide) e2 rfl e4 (H16.rd (i := 2) rfl) rfl (by decide) (by decide)) rfl kflaw34_8 ⟨rfl, rfl, rfl, trivial⟩) rfl rfl ?_
 rintro _ w18 ⟨A20, c21, rfl, k17⟩
 have H19 := H16.call k17
 have e5' : drawL [⟨-5, 46⟩, ⟨0, 111⟩] (2 + 1 - 0) [3, -2, -9] (0 + 1 - 0) = [[111, 46, 46]] := e5
 rw [e5'] at H19
 refine ry (y_mov rfl rfl) rfl rfl ?_
 refine ry (y_ext rfl rfl rfl) rfl rfl ?_
 refine ry (y_ext rfl rfl rfl) rfl rfl ?_
 refine ry (y_asg rfl rfl) rfl rfl ?_
 refine ry (y_asg rfl rfl) rfl rfl ?_
 refine reg_nil ?_
 refine fn_next ?_
 refine cw_seq ?_
 refine cw_reg ?_
 refine ry (y_mov rfl rfl) rfl rfl ?_
 refine ry (y_mov rfl rfl) rfl rfl ?_
 refine reg_op (op_call (readOk _ 1 _ [[111, 46, 46]] _ 2 _ [⟨-5, 46⟩, ⟨0, 111⟩] 3 [0, -5, -5] _ (H19.rd (i := 0) rfl) rfl (by decide) (fun s hs => by rw [List.mem_singleton.1 hs]; exact aw34b) (fun s hs => by rw [List.mem_singleton.1 hs]; decide) (H19.rd (i := 3) rfl) rfl (by decide) (by decide) e6) rfl kflaw34_9 ⟨rfl, rfl, trivial⟩) rfl rfl ?_
 rintro _ w23 ⟨g25, bl26, rfl, k22⟩
 have H24 := H19.call k22
 refine ry (y_mov rfl rfl) rfl rfl ?_
 refine ry (y_ext rfl rfl rfl) rfl rfl ?_
 refine ry (y_ext rfl rfl rfl) rfl rfl ?_
 refine ry (y_asg rfl rfl) rfl rfl ?_
 refine ry (y_asg rfl rfl) rfl rfl ?_
 refine reg_nil ?_
 refine fn_next ?_
 refine cw_seq ?_
 refine cw_reg ?_
 refine ry (y_mov rfl rfl) rfl rfl ?_
 refine ry (y_mov rfl rfl) rfl rfl ?_
 refine reg_op (op_call (gAll g25 3 1 ([0, -5, -5])  _ (H24.rdg (i := 0) rfl)) rfl kflaw34_7 ⟨rfl, trivial⟩) rfl rfl ?_
 rintro _ w28 ⟨rfl, e27⟩
 have H29 := H24.ext e27
 refine reg_op (op_call (gValuesAll g25 3 1 ([0, -5, -5]) _ (H29.rdg (i := 0) rfl)) rfl kflaw34_10 ⟨rfl, rfl, trivial⟩) rfl rfl ?_
 rintro _ w31 ⟨A33, c34, rfl, k30⟩
 have H32 := H29.call k30
 refine ry (y_mov rfl rfl) rfl rfl ?_
 refine ry (y_ext rfl rfl rfl) rfl rfl ?_
 refine ry (y_ext rfl rfl rfl) rfl rfl ?_
 refine ry (y_asg rfl rfl) rfl rfl ?_
 refine ry (y_asg rfl rfl) rfl rfl ?_
 refine reg_nil ?_
 refine fn_next ?_
 refine cw_seq ?_
 refine cw_reg ?_
 refine ry (y_mov rfl rfl) rfl rfl ?_
 refine ry (y_eql rfl rfl rfl) rfl rfl ?_
 refine ry (y_mov rfl rfl) rfl rfl ?_
 refine rgy (y_mov rfl rfl) rfl rfl rfl rfl ?_
 refine rgy (y_eql rfl rfl rfl) rfl rfl rfl rfl ?_
 refine ry (y_pick rfl rfl rfl) rfl rfl ?_
 refine ry (y_mov rfl rfl) rfl rfl ?_
 refine rgy (y_mov rfl rfl) rfl rfl rfl rfl ?_
 refine rgy (y_eql rfl rfl rfl) rfl rfl rfl rfl ?_
 refine ry (y_pick rfl rfl rfl) rfl rfl ?_
 refine ry (y_mov rfl rfl) rfl rfl ?_
 refine rgy (y_mov rfl rfl) rfl rfl rfl rfl ?_
 refine rgy (y_eql rfl rfl rfl) rfl rfl rfl rfl ?_
 refine ry (y_pick rfl rfl rfl) rfl rfl ?_
 refine ry (y_mov rfl rfl) rfl rfl ?_
 refine rg_splitd (d := 53) rfl (fun h35 => ?_) (fun h35 => ?_)
 ·skip
  refine rgy (y_mov rfl rfl) rfl rfl rfl rfl ?_
  refine rgy (y_len rfl Tryd.underlying52 rfl) rfl rfl rfl rfl ?_
  refine rgy (y_eql rfl rfl rfl) rfl rfl rfl rfl ?_
  refine ry (y_pick rfl rfl rfl) rfl rfl ?_
  refine ry (y_mov rfl rfl) rfl rfl ?_
  refine rg_splitd (d := 58) rfl (fun h36 => ?_) (fun h36 => ?_)
  ·skip
   refine rgy (y_mov rfl rfl) rfl rfl rfl rfl ?_
   refine rgy (y_iar (i := 0) (H32.rd (i := 2) rfl) rfl rfl rfl kflaw34_1 (rfl) (by omega) (Nat.mul_one _) (rfl)) rfl rfl rfl rfl ?_
   refine rgy (y_ldr (H32.rd (i := 2) rfl) rfl rfl kflaw34_2 (rfl)) rfl rfl rfl rfl ?_
   refine rgy (y_streq rfl rfl rfl (aw34b) (aw34b)) rfl rfl rfl rfl ?_
   refine ry (y_pick rfl rfl rfl) rfl rfl ?_
   refine ry (y_mov rfl rfl) rfl rfl ?_
   refine rg_splitd (d := 64) rfl (fun h37 => ?_) (fun h37 => ?_)
   ·skip
    refine rgy (y_mov rfl rfl) rfl rfl rfl rfl ?_
    refine rg_on rfl rfl rfl (op_lit (parts := [(0, _), (1, _), (2, _)]) (vs := [(0, _), (1, _), (2, _)]) (cs := [.int _ _, .int _ _, .int _ _]) H32 rfl Tryd.underlying22 kflaw34_5 rfl ⟨rfl, rfl, rfl, trivial⟩ rfl rfl) rfl ?_
    rintro _ w39 ⟨b38, rfl, H40⟩
    have H41 := H40.asrow (m := 3) (size := 1) rfl (by decide)
    refine rg_on rfl rfl rfl (op_call (ret_v (v := .bool true) (refSame_any _ 3 _ [0, -5, -5] _ 3 _ [0, -5, -5] _ (H41.rd (i := 1) rfl) rfl (H41.rd (i := 0) rfl) rfl (by decide)) rfl) rfl kflaw34_11 ⟨rfl, rfl, trivial⟩) rfl ?_
    rintro _ w43 ⟨rfl, e42⟩
    have H44 := H41.ext e42
    refine ry (y_pick rfl rfl rfl) rfl rfl ?_
    refine ry (y_asg rfl rfl) rfl rfl ?_
    refine reg_nil ?_
    refine fn_next ?_
    refine cw_ret ?_
    refine fn_ret1 rfl rfl ?_
    exact ⟨rfl, H44.base⟩
   · exact absurd rfl h37
  · exact absurd rfl h36
 · exact absurd rfl h35

end Go.Proofs.YtgkkbeomhkggjaaDoor
