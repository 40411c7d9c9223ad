/- Layer 34: what its laws stand on; ChartReads. -/
import Derived.Test.YtgkkbeomhkggjaaDraw1
import Derived.Test.YtgkkbeomhkggjaaReads2
import Derived.Test.YtgkkbeomhkggjaaLaw9a
import Derived.Test.YtgkkbeomhkggjaaElems34
set_option linter.unusedVariables false
set_option linter.unusedSimpArgs false
namespace Go.Proofs.Ytgkkbeomhkggjaa
open Go Go.RowKit
theorem kflaw34_1 : elB Try.prog 60 1 = true := by kernel_rfl
theorem kflaw34_2 : oneB Try.prog 9 = true := by kernel_rfl
theorem kflaw34_3 : (Try.prog.info? 70).bind (fun i => i.zero.map Value.cells) = some (List.toArray [(.int .i64 0), (.int .i32 0)]) := by kernel_rfl
theorem kflaw34_4 : (Try.prog.info? 70).map (fun i => (i.size, i.zero.map Value.cells)) = some (2, some (List.toArray [(.int .i64 0), (.int .i32 0)])) := by kernel_rfl
theorem kflaw34_5 : (Try.prog.info? 2).map (fun i => (i.size, i.zero.map Value.cells)) = some (1, some (List.toArray [(.int .i64 0)])) := by kernel_rfl
theorem kflaw34_6 : callB Try.prog 42 = true := by kernel_rfl
theorem kflaw34_7 : callB Try.prog 27 = true := by kernel_rfl
theorem kflaw34_8 : callB Try.prog 25 = true := by kernel_rfl
theorem kflaw34_9 : callB Try.prog 26 = true := by kernel_rfl
theorem kflaw34_10 : callB Try.prog 28 = true := by kernel_rfl
theorem kflaw34_11 : callB Try.prog 39 = true := by kernel_rfl
theorem kflaw34_12 : callB Try.prog 21 = true := by kernel_rfl
theorem kflaw34_13 : callB Try.prog 30 = true := by kernel_rfl
theorem kflaw34_14 : callB Try.prog 31 = true := by kernel_rfl
theorem kflaw34_15 : (Try.prog.info? 53).bind (fun i => i.zero.map Value.cells) = some (List.toArray [(.int .i64 0), (.int .i64 0), (.slice none 0 0)]) := by kernel_rfl
theorem kflaw34_16 : szB Try.prog 53 3 = true := by kernel_rfl
theorem kflaw34_17 : aggB Try.prog 53 3 = true := by kernel_rfl
theorem kflaw34_18 : callB Try.prog 32 = true := by kernel_rfl
theorem aw34 : fromC ((3 : Nat) : Int) ((1 : Nat) : Int) [3, -2, -9] = 0 ∧ gvalV [3, -2, -9] 3 1 ((0 : Nat) : Int) ((0 : Nat) : Int) ((2 : Nat) : Int) ((0 : Nat) : Int) = [3, -2, -9] ∧ withinC ((0 : Nat) : Int) ((0 : Nat) : Int) ((2 : Nat) : Int) ((0 : Nat) : Int) ((3 : Nat) : Int) ((1 : Nat) : Int) = 0 ∧ rgtB [⟨-5, 46⟩, ⟨0, 111⟩] = true ∧ drawL [⟨-5, 46⟩, ⟨0, 111⟩] 3 [3, -2, -9] 1 = [[111, 46, 46]] ∧ readM [⟨-5, 46⟩, ⟨0, 111⟩] [[111, 46, 46]] = (0, 3, [0, -5, -5]) := by decide +kernel
theorem aw34b : Byt [111, 46, 46] := fun z hz => by simp only [List.mem_cons, List.not_mem_nil, or_false] at hz; omega
theorem ln_one {q : List (List Int)} {k : Nat} (h : ∀ s ∈ q, s.length ≤ k) {i : Nat} (hi : i < q.length) : (q.getD i []).length ≤ k := getD_len h hi

set_option maxRecDepth 100000 in
theorem lSame34 (LA LB : Option Addr) (nl c1 c2 : Nat) (ls : List (List Int)) (w : World) (ha : Rd w LA (strs ls)) (hb : Rd w LB (strs ls)) (hl : ls.length = nl) (hnl : nl ≤ 1000000) (hBs : Byts ls) :
    Ret Try.prog 29 [.slice LA nl c1, .slice LB nl c2] w (fun z w' => z = .bool true ∧ Below w.heap.size w w') := by
 refine ret_enter Try.func29 rfl rfl rfl ?_
 have H0 := HS.start w
 refine cw_seq ?_
 refine cw_reg ?_
 refine ry (y_asg rfl rfl) rfl rfl ?_
 refine reg_nil ?_
 refine fn_next ?_
 refine cw_seq ?_
 refine cw_seq ?_
 refine cw_reg ?_
 refine ry (y_mov rfl rfl) rfl rfl ?_
 refine ry (y_len rfl Try.underlying60 rfl) rfl rfl ?_
 refine ry (y_mov rfl rfl) rfl rfl ?_
 refine ry (y_len rfl Try.underlying60 rfl) rfl rfl ?_
 refine ry (y_neq rfl rfl rfl) rfl rfl ?_
 refine reg_nil ?_
 refine fn_next ?_
 refine cw_condd rfl (fun h1 => ?_) (fun h1 => ?_)
 · exact absurd rfl h1
 ·skip
  refine cw_skip ?_
  refine fn_next ?_
  refine cw_seq ?_
  refine cw_seq ?_
  refine cw_reg ?_
  refine ry (y_asg rfl rfl) rfl rfl ?_
  refine reg_nil ?_
  refine fn_next ?_
  refine cw_block ?_
  refine cw_loopJ [4, 5, 11, 12, 13, 14, 15, 16, 17, 18, 19, 20, 21, 22, 23, 24, 25] (fun M wl ml => ∃ (i : Nat), M = [(5, .int .i64 (i : Int))] ∧ HS w wl [] ∧ (i ≤ nl) ∧ ml = nl + 1 - i) ⟨0, rfl, H0, Nat.zero_le _, rfl⟩ ⟨rfl, trivial⟩ ?_
  rintro M w2 m4 ⟨i, rfl, H3, hin, rfl⟩
  refine cw_seq ?_
  refine cw_seq ?_
  refine cw_reg ?_
  refine ry (y_mov rfl rfl) rfl rfl ?_
  refine ry (y_mov rfl rfl) rfl rfl ?_
  refine ry (y_len rfl Try.underlying60 rfl) rfl rfl ?_
  refine ry (y_lss rfl rfl rfl) rfl rfl ?_
  refine reg_nil ?_
  refine fn_next ?_
  refine cw_condd rfl (fun h5 => ?_) (fun h5 => ?_)
  ·skip
   have gs := strs_get (ls := ls) (i := i) (by omega)
   refine cw_skip ?_
   refine fn_next ?_
   refine cw_seq ?_
   refine cw_block ?_
   refine cw_seq ?_
   refine cw_draw H3 [0, 1, 2, 3, 4, 5, 6, 7, 8] [] (fun X HX => HX) (by kernel_rfl) (by kernel_rfl) (by rfl) ?_
   simp only [pick, List.getElem?_cons_succ, List.getElem?_cons_zero]
   refine hk_y (fun Y HY => y_mov rfl rfl) rfl rfl ?_
   refine hk_y (fun Y HY => y_mov rfl rfl) rfl rfl ?_
   refine hk_y (fun Y HY => y_iar (ha.below HY.base) rfl rfl rfl kflaw34_1 (rfl) (by omega) (Nat.mul_one _) (gs)) rfl rfl ?_
   refine hk_y (fun Y HY => y_ldr (ha.below HY.base) rfl rfl kflaw34_2 (gs)) rfl rfl ?_
   refine hk_y (fun Y HY => y_mov rfl rfl) rfl rfl ?_
   refine hk_y (fun Y HY => y_mov rfl rfl) rfl rfl ?_
   refine hk_y (fun Y HY => y_iar (hb.below HY.base) rfl rfl rfl kflaw34_1 (rfl) (by omega) (Nat.mul_one _) (gs)) rfl rfl ?_
   refine hk_y (fun Y HY => y_ldr (hb.below HY.base) rfl rfl kflaw34_2 (gs)) rfl rfl ?_
   refine hk_y (fun Y HY => y_strne rfl rfl rfl (hBs.at_ (by omega)) (hBs.at_ (by omega))) rfl rfl ?_
   refine hk_nil ?_
   intro w6 H7
   refine tv_nil ?_
   refine fn_next ?_
   refine cw_condd rfl (fun h8 => ?_) (fun h8 => ?_)
   · exact absurd rfl h8
   ·skip
    refine cw_skip ?_
    refine fn_block ?_
    refine fn_next ?_
    refine cw_reg ?_
    refine ry (y_mov rfl rfl) rfl rfl ?_
    refine ry (y_add rfl rfl rfl (wi (by omega))) rfl rfl ?_
    refine ry (y_asg rfl rfl) rfl rfl ?_
    refine reg_nil ?_
    refine fn_roundJ ⟨i + 1, rfl, H7, by omega, rfl⟩ ⟨rfl, trivial⟩ (by omega) (by repeat (first | exact kp_refl | refine kp_app rfl rfl ?_ | refine kp_cons rfl ?_)) rfl
  ·skip
   refine cw_exit ?_
   refine fn_then_exit (fn_then_exit (fn_block_exit ?_))
   refine fn_next ?_
   refine cw_seq ?_
   refine cw_reg ?_
   refine ry (y_asg rfl rfl) rfl rfl ?_
   refine reg_nil ?_
   refine fn_next ?_
   refine cw_ret ?_
   refine fn_ret1 rfl rfl ?_
   exact ⟨rfl, H3.base⟩

set_option maxRecDepth 100000 in
theorem lLong34 (LA : Option Addr) (nl lc : Nat) (ls : List (List Int)) (m : Int) (w : World) (hlr : Rd w LA (strs ls)) (hll : ls.length = nl) :
    Ret Try.prog 30 [.slice LA nl lc, .int .i64 m] w (fun v w' => ∃ r : Bool, v = .bool r ∧ (r = false → nl ≤ 100 ∧ ∀ j, j < nl → ((ls.getD j []).length : Int) ≤ m) ∧ Below w.heap.size w w') := by
 refine ret_enter Try.func30 rfl rfl rfl ?_
 have H0 := HS.start w
 refine cw_seq ?_
 refine cw_reg ?_
 refine ry (y_asg rfl rfl) rfl rfl ?_
 refine reg_nil ?_
 refine fn_next ?_
 refine cw_seq ?_
 refine cw_seq ?_
 refine cw_reg ?_
 refine ry (y_mov rfl rfl) rfl rfl ?_
 refine ry (y_len rfl Try.underlying60 rfl) rfl rfl ?_
 refine ry (y_gtr rfl rfl rfl) rfl rfl ?_
 refine reg_nil ?_
 refine fn_next ?_
 refine cw_condd rfl (fun h1 => ?_) (fun h1 => ?_)
 ·skip
  refine cw_seq ?_
  refine cw_reg ?_
  refine ry (y_asg rfl rfl) rfl rfl ?_
  refine reg_nil ?_
  refine fn_next ?_
  refine cw_ret ?_
  refine fn_then_ret ?_
  refine fn_ret1 rfl rfl ?_
  exact ⟨true, rfl, (fun h => by cases h), H0.base⟩
 ·skip
  refine cw_skip ?_
  refine fn_next ?_
  refine cw_seq ?_
  refine cw_seq ?_
  refine cw_reg ?_
  refine ry (y_asg rfl rfl) rfl rfl ?_
  refine reg_nil ?_
  refine fn_next ?_
  refine cw_block ?_
  refine cw_loopJ [4, 5, 9, 10, 11, 12, 13, 14, 15, 16, 17, 18, 19, 20, 21] (fun M wl ml => ∃ (i : Nat), M = [(5, .int .i64 (i : Int))] ∧ HS w wl [] ∧ (i ≤ nl) ∧ (∀ j, j < i → ((ls.getD j []).length : Int) ≤ m) ∧ ml = nl + 1 - i) ⟨0, rfl, H0, Nat.zero_le _, fun j h => absurd h (Nat.not_lt_zero _), rfl⟩ ⟨rfl, trivial⟩ ?_
  rintro M w2 m4 ⟨i, rfl, H3, hin, hall, rfl⟩
  refine cw_seq ?_
  refine cw_seq ?_
  refine cw_reg ?_
  refine ry (y_mov rfl rfl) rfl rfl ?_
  refine ry (y_mov rfl rfl) rfl rfl ?_
  refine ry (y_len rfl Try.underlying60 rfl) rfl rfl ?_
  refine ry (y_lss rfl rfl rfl) rfl rfl ?_
  refine reg_nil ?_
  refine fn_next ?_
  refine cw_condd rfl (fun h5 => ?_) (fun h5 => ?_)
  ·skip
   have gs := strs_get (ls := ls) (i := i) (by omega)
   refine cw_skip ?_
   refine fn_next ?_
   refine cw_seq ?_
   refine cw_block ?_
   refine cw_seq ?_
   refine cw_reg ?_
   refine ry (y_mov rfl rfl) rfl rfl ?_
   refine ry (y_mov rfl rfl) rfl rfl ?_
   refine ry (y_iar (hlr.below H3.base) rfl rfl rfl kflaw34_1 (rfl) (by omega) (Nat.mul_one _) (gs)) rfl rfl ?_
   refine ry (y_ldr (hlr.below H3.base) rfl rfl kflaw34_2 (gs)) rfl rfl ?_
   refine ry (y_lenB rfl Try.underlying9 rfl) rfl rfl ?_
   refine ry (y_mov rfl rfl) rfl rfl ?_
   refine ry (y_gtr rfl rfl rfl) rfl rfl ?_
   refine reg_nil ?_
   refine fn_next ?_
   refine cw_condd rfl (fun h6 => ?_) (fun h6 => ?_)
   ·skip
    refine cw_seq ?_
    refine cw_reg ?_
    refine ry (y_asg rfl rfl) rfl rfl ?_
    refine reg_nil ?_
    refine fn_next ?_
    refine cw_ret ?_
    refine fn_block_ret (fn_then_ret (fn_then_ret (fn_block_ret (fn_then_ret ?_))))
    refine fn_ret1 rfl rfl ?_
    exact ⟨true, rfl, (fun h => by cases h), H3.base⟩
   ·skip
    refine cw_skip ?_
    refine fn_block ?_
    refine fn_next ?_
    refine cw_reg ?_
    refine ry (y_mov rfl rfl) rfl rfl ?_
    refine ry (y_add rfl rfl rfl (wi (by omega))) rfl rfl ?_
    refine ry (y_asg rfl rfl) rfl rfl ?_
    refine reg_nil ?_
    refine fn_roundJ ⟨i + 1, rfl, H3, by omega, fun j hj => by rcases Nat.lt_succ_iff_lt_or_eq.1 hj with q | rfl; exact hall j q; omega, rfl⟩ ⟨rfl, trivial⟩ (by omega) (by repeat (first | exact kp_refl | refine kp_app rfl rfl ?_ | refine kp_cons rfl ?_)) rfl
  ·skip
   refine cw_exit ?_
   refine fn_then_exit (fn_then_exit (fn_block_exit ?_))
   refine fn_next ?_
   refine cw_seq ?_
   refine cw_reg ?_
   refine ry (y_asg rfl rfl) rfl rfl ?_
   refine reg_nil ?_
   refine fn_next ?_
   refine cw_ret ?_
   refine fn_ret1 rfl rfl ?_
   exact ⟨false, rfl, fun _ => ⟨by omega, fun j hj => hall j (by omega)⟩, H3.base⟩

set_option maxRecDepth 100000 in
set_option maxHeartbeats 1000000 in
theorem chartAwake  (w : World) :
    Ret Try.prog 21 [] w (fun z w' => z = .bool true ∧ Below w.heap.size w w') := by
 obtain ⟨e1, e2, e3, e4, e5, e6⟩ := aw34
 refine ret_enter Try.func21 rfl rfl rfl ?_
 have H0 := HS.start w
 refine cw_seq ?_
 refine cw_reg ?_
 refine ry (y_asg rfl rfl) rfl rfl ?_
 refine reg_nil ?_
 refine fn_next ?_
 refine cw_seq ?_
 refine cw_reg ?_
 refine ry (y_build (places := [(0, 1), (1, 1)]) (parts := [(0, _), (1, _)]) (vs := [(0, _), (1, _)]) (cs := [.int _ _, .int _ _]) rfl Try.underlying70 (by kernel_rfl) kflaw34_3 rfl ⟨rfl, rfl, trivial⟩ rfl) rfl rfl ?_
 refine ry (y_build (places := [(0, 1), (1, 1)]) (parts := [(0, _), (1, _)]) (vs := [(0, _), (1, _)]) (cs := [.int _ _, .int _ _]) rfl Try.underlying70 (by kernel_rfl) kflaw34_3 rfl ⟨rfl, rfl, trivial⟩ rfl) rfl rfl ?_
 refine reg_op (op_lit (parts := [(0, _), (1, _)]) (vs := [(0, _), (1, _)]) (cs := [.int _ _, .int _ _, .int _ _, .int _ _]) H0 rfl Try.underlying51 kflaw34_4 rfl ⟨rfl, rfl, trivial⟩ rfl rfl) rfl rfl ?_
 rintro _ w2 ⟨b1, rfl, H3⟩
 have H4 := H3.asrow (m := 2) (size := 2) rfl (by decide)
 refine ry (y_asg rfl rfl) rfl rfl ?_
 refine reg_nil ?_
 refine fn_next ?_
 refine cw_seq ?_
 refine cw_reg ?_
 refine reg_op (op_lit (parts := [(0, _), (1, _), (2, _)]) (vs := [(0, _), (1, _), (2, _)]) (cs := [.int _ _, .int _ _, .int _ _]) H4 rfl Try.underlying28 kflaw34_5 rfl ⟨rfl, rfl, rfl, trivial⟩ rfl rfl) rfl rfl ?_
 rintro _ w6 ⟨b5, rfl, H7⟩
 have H8 := H7.asrow (m := 3) (size := 1) rfl (by decide)
 refine reg_op (op_call (gFrom_ok 3 1 [3, -2, -9] _ 3 _ _ (H8.rd (i := 0) rfl) rfl (by decide) ⟨by decide, by decide, by decide, by decide⟩ e1) rfl kflaw34_6 ⟨rfl, rfl, rfl, trivial⟩) rfl rfl ?_
 rintro _ w10 ⟨g12, bl13, rfl, k9⟩
 have H11 := H8.call k9
 refine ry (y_mov rfl rfl) rfl rfl ?_
 refine ry (y_ext rfl rfl rfl) rfl rfl ?_
 refine ry (y_ext rfl rfl rfl) rfl rfl ?_
 refine ry (y_asg rfl rfl) rfl rfl ?_
 refine ry (y_asg rfl rfl) rfl rfl ?_
 refine reg_nil ?_
 refine fn_next ?_
 refine cw_seq ?_
 refine cw_reg ?_
 refine ry (y_mov rfl rfl) rfl rfl ?_
 refine ry (y_mov rfl rfl) rfl rfl ?_
 refine reg_op (op_call (gAll g12 3 1 ([3, -2, -9])  _ (H11.rdg (i := 0) rfl)) rfl kflaw34_7 ⟨rfl, trivial⟩) rfl rfl ?_
 rintro _ w15 ⟨rfl, e14⟩
 have H16 := H11.ext e14
 refine ry (y_mov rfl rfl) rfl rfl ?_
 refine reg_op (op_call (drawOk g12 3 1 [3, -2, -9] 0 0 2 0 _ 2 _ [⟨-5, 46⟩, ⟨0, 111⟩] [3, -2, -9] _ (H16.rdg (i := 0) rfl) e3 (by decide) (by decide) (by decide) (by decide) e2 rfl e4 (H16.rd (i := 2) rfl) rfl (by decide) (by decide)) rfl kflaw34_8 ⟨rfl, rfl, rfl, trivial⟩) rfl rfl ?_
 rintro _ w18 ⟨A20, c21, rfl, k17⟩
 have H19 := H16.call k17
 have e5' : drawL [⟨-5, 46⟩, ⟨0, 111⟩] (2 + 1 - 0) [3, -2, -9] (0 + 1 - 0) = [[111, 46, 46]] := e5
 rw [e5'] at H19
 refine ry (y_mov rfl rfl) rfl rfl ?_
 refine ry (y_ext rfl rfl rfl) rfl rfl ?_
 refine ry (y_ext rfl rfl rfl) rfl rfl ?_
 refine ry (y_asg rfl rfl) rfl rfl ?_
 refine ry (y_asg rfl rfl) rfl rfl ?_
 refine reg_nil ?_
 refine fn_next ?_
 refine cw_seq ?_
 refine cw_reg ?_
 refine ry (y_mov rfl rfl) rfl rfl ?_
 refine ry (y_mov rfl rfl) rfl rfl ?_
 refine reg_op (op_call (readOk _ 1 _ [[111, 46, 46]] _ 2 _ [⟨-5, 46⟩, ⟨0, 111⟩] 3 [0, -5, -5] _ (H19.rd (i := 0) rfl) rfl (by decide) (fun s hs => by rw [List.mem_singleton.1 hs]; exact aw34b) (fun s hs => by rw [List.mem_singleton.1 hs]; decide) (H19.rd (i := 3) rfl) rfl (by decide) (by decide) e6) rfl kflaw34_9 ⟨rfl, rfl, trivial⟩) rfl rfl ?_
 rintro _ w23 ⟨g25, bl26, rfl, k22⟩
 have H24 := H19.call k22
 refine ry (y_mov rfl rfl) rfl rfl ?_
 refine ry (y_ext rfl rfl rfl) rfl rfl ?_
 refine ry (y_ext rfl rfl rfl) rfl rfl ?_
 refine ry (y_asg rfl rfl) rfl rfl ?_
 refine ry (y_asg rfl rfl) rfl rfl ?_
 refine reg_nil ?_
 refine fn_next ?_
 refine cw_seq ?_
 refine cw_reg ?_
 refine ry (y_mov rfl rfl) rfl rfl ?_
 refine ry (y_mov rfl rfl) rfl rfl ?_
 refine reg_op (op_call (gAll g25 3 1 ([0, -5, -5])  _ (H24.rdg (i := 0) rfl)) rfl kflaw34_7 ⟨rfl, trivial⟩) rfl rfl ?_
 rintro _ w28 ⟨rfl, e27⟩
 have H29 := H24.ext e27
 refine reg_op (op_call (gValuesAll g25 3 1 ([0, -5, -5]) _ (H29.rdg (i := 0) rfl)) rfl kflaw34_10 ⟨rfl, rfl, trivial⟩) rfl rfl ?_
 rintro _ w31 ⟨A33, c34, rfl, k30⟩
 have H32 := H29.call k30
 refine ry (y_mov rfl rfl) rfl rfl ?_
 refine ry (y_ext rfl rfl rfl) rfl rfl ?_
 refine ry (y_ext rfl rfl rfl) rfl rfl ?_
 refine ry (y_asg rfl rfl) rfl rfl ?_
 refine ry (y_asg rfl rfl) rfl rfl ?_
 refine reg_nil ?_
 refine fn_next ?_
 refine cw_seq ?_
 refine cw_reg ?_
 refine ry (y_mov rfl rfl) rfl rfl ?_
 refine ry (y_eql rfl rfl rfl) rfl rfl ?_
 refine ry (y_mov rfl rfl) rfl rfl ?_
 refine rgy (y_mov rfl rfl) rfl rfl rfl rfl ?_
 refine rgy (y_eql rfl rfl rfl) rfl rfl rfl rfl ?_
 refine ry (y_pick rfl rfl rfl) rfl rfl ?_
 refine ry (y_mov rfl rfl) rfl rfl ?_
 refine rgy (y_mov rfl rfl) rfl rfl rfl rfl ?_
 refine rgy (y_eql rfl rfl rfl) rfl rfl rfl rfl ?_
 refine ry (y_pick rfl rfl rfl) rfl rfl ?_
 refine ry (y_mov rfl rfl) rfl rfl ?_
 refine rgy (y_mov rfl rfl) rfl rfl rfl rfl ?_
 refine rgy (y_eql rfl rfl rfl) rfl rfl rfl rfl ?_
 refine ry (y_pick rfl rfl rfl) rfl rfl ?_
 refine ry (y_mov rfl rfl) rfl rfl ?_
 refine rg_splitd (d := 53) rfl (fun h35 => ?_) (fun h35 => ?_)
 ·skip
  refine rgy (y_mov rfl rfl) rfl rfl rfl rfl ?_
  refine rgy (y_len rfl Try.underlying60 rfl) rfl rfl rfl rfl ?_
  refine rgy (y_eql rfl rfl rfl) rfl rfl rfl rfl ?_
  refine ry (y_pick rfl rfl rfl) rfl rfl ?_
  refine ry (y_mov rfl rfl) rfl rfl ?_
  refine rg_splitd (d := 58) rfl (fun h36 => ?_) (fun h36 => ?_)
  ·skip
   refine rgy (y_mov rfl rfl) rfl rfl rfl rfl ?_
   refine rgy (y_iar (i := 0) (H32.rd (i := 2) rfl) rfl rfl rfl kflaw34_1 (rfl) (by omega) (Nat.mul_one _) (rfl)) rfl rfl rfl rfl ?_
   refine rgy (y_ldr (H32.rd (i := 2) rfl) rfl rfl kflaw34_2 (rfl)) rfl rfl rfl rfl ?_
   refine rgy (y_streq rfl rfl rfl (aw34b) (aw34b)) rfl rfl rfl rfl ?_
   refine ry (y_pick rfl rfl rfl) rfl rfl ?_
   refine ry (y_mov rfl rfl) rfl rfl ?_
   refine rg_splitd (d := 64) rfl (fun h37 => ?_) (fun h37 => ?_)
   ·skip
    refine rgy (y_mov rfl rfl) rfl rfl rfl rfl ?_
    refine rg_on rfl rfl rfl (op_lit (parts := [(0, _), (1, _), (2, _)]) (vs := [(0, _), (1, _), (2, _)]) (cs := [.int _ _, .int _ _, .int _ _]) H32 rfl Try.underlying28 kflaw34_5 rfl ⟨rfl, rfl, rfl, trivial⟩ rfl rfl) rfl ?_
    rintro _ w39 ⟨b38, rfl, H40⟩
    have H41 := H40.asrow (m := 3) (size := 1) rfl (by decide)
    refine rg_on rfl rfl rfl (op_call (ret_v (v := .bool true) (refSame_any _ 3 _ [0, -5, -5] _ 3 _ [0, -5, -5] _ (H41.rd (i := 1) rfl) rfl (H41.rd (i := 0) rfl) rfl (by decide)) rfl) rfl kflaw34_11 ⟨rfl, rfl, trivial⟩) rfl ?_
    rintro _ w43 ⟨rfl, e42⟩
    have H44 := H41.ext e42
    refine ry (y_pick rfl rfl rfl) rfl rfl ?_
    refine ry (y_asg rfl rfl) rfl rfl ?_
    refine reg_nil ?_
    refine fn_next ?_
    refine cw_ret ?_
    refine fn_ret1 rfl rfl ?_
    exact ⟨rfl, H44.base⟩
   · exact absurd rfl h37
  · exact absurd rfl h36
 · exact absurd rfl h35

set_option maxRecDepth 100000 in
set_option maxHeartbeats 1000000 in
theorem chartReads_no (LA : Option Addr) (nl lc : Nat) (ls : List (List Int)) (A : Option Addr) (n c : Nat) (l : List Bd) (e : Int) (z : Nat × List Int) (w : World) (hlr : Rd w LA (strs ls)) (hll : ls.length = nl) (hBs : Byts ls) (hb : Rd w A (bcells l)) (hl : l.length = n) (hcap : n ≤ c) (hd : readM l ls = (e, z)) (he : e ≠ 0) :
    Ret Try.prog 7 [.slice LA nl lc, .slice A n c] w (fun z w' => z = .bool true ∧ Below w.heap.size w w') := by
 refine ret_enter Try.func7 rfl rfl rfl ?_
 have H0 := HS.start w
 refine cw_seq ?_
 refine cw_reg ?_
 refine ry (y_asg rfl rfl) rfl rfl ?_
 refine reg_nil ?_
 refine fn_next ?_
 refine cw_seq ?_
 refine cw_seq ?_
 refine cw_reg ?_
 refine reg_op (op_call (chartAwake _) rfl kflaw34_12 trivial) rfl rfl ?_
 rintro _ w2 ⟨rfl, e1⟩
 have H3 := H0.ext e1
 refine ry (y_not rfl rfl) rfl rfl ?_
 refine reg_nil ?_
 refine fn_next ?_
 refine cw_condf rfl ?_
 refine cw_skip ?_
 refine fn_next ?_
 refine cw_seq ?_
 refine cw_seq ?_
 refine cw_reg ?_
 refine ry (y_mov rfl rfl) rfl rfl ?_
 refine reg_op (op_call (lLong34 LA nl lc ls 300 _ (hlr.below H3.base) hll) rfl kflaw34_13 ⟨rfl, rfl, trivial⟩) rfl rfl ?_
 rintro _ w5 ⟨r, rfl, hlg, e4⟩
 have H6 := H3.ext e4
 refine ry (y_mov rfl rfl) rfl rfl ?_
 refine rg_split (d := 13) rfl (fun h7 => ?_) (fun h7 => ?_)
 ·skip
  refine rg_off rfl rfl rfl rfl rfl ?_
  refine rg_off rfl rfl rfl rfl rfl ?_
  refine rg_off rfl rfl rfl rfl rfl ?_
  refine ry (y_pick rfl rfl rfl) rfl rfl ?_
  refine reg_nil ?_
  refine fn_next ?_
  refine cw_condt rfl ?_
  refine cw_seq ?_
  refine cw_reg ?_
  refine ry (y_asg rfl rfl) rfl rfl ?_
  refine reg_nil ?_
  refine fn_next ?_
  refine cw_ret ?_
  refine fn_then_ret ?_
  refine fn_ret1 rfl rfl ?_
  exact ⟨rfl, H6.base⟩
 ·skip
  have hf := h7
  have hsz : ∀ s ∈ ls, s.length ≤ 1000000 := fun s hs => by obtain ⟨j, hj, rfl⟩ := List.mem_iff_getElem.1 hs; have := (hlg hf).2 j (by omega); rw [List.getD, List.getElem?_eq_getElem hj] at this; simp only [Option.getD_some] at this; omega
  have hnl := (hlg hf).1
  refine rgy (y_mov rfl rfl) rfl rfl rfl rfl ?_
  refine rgy (y_len rfl Try.underlying51 rfl) rfl rfl rfl rfl ?_
  refine rgy (y_gtr rfl rfl rfl) rfl rfl rfl rfl ?_
  refine ry (y_pick rfl rfl rfl) rfl rfl ?_
  refine reg_nil ?_
  refine fn_next ?_
  refine cw_condd rfl (fun h8 => ?_) (fun h8 => ?_)
  ·skip
   refine cw_seq ?_
   refine cw_reg ?_
   refine ry (y_asg rfl rfl) rfl rfl ?_
   refine reg_nil ?_
   refine fn_next ?_
   refine cw_ret ?_
   refine fn_then_ret ?_
   refine fn_ret1 rfl rfl ?_
   exact ⟨rfl, H6.base⟩
  ·skip
   refine cw_skip ?_
   refine fn_next ?_
   refine cw_seq ?_
   refine cw_reg ?_
   refine ry (y_mov rfl rfl) rfl rfl ?_
   refine ry (y_mov rfl rfl) rfl rfl ?_
   refine reg_op (op_call (readNo LA nl lc ls A n c l e z _ (hlr.below H6.base) hll (by omega) hBs hsz (hb.below H6.base) hl (by omega) hcap hd he) rfl kflaw34_9 ⟨rfl, rfl, trivial⟩) rfl rfl ?_
   rintro _ w10 ⟨rfl, e9⟩
   have H11 := H6.ext e9
   refine ry (y_mov rfl rfl) rfl rfl ?_
   refine ry (y_ext rfl rfl rfl) rfl rfl ?_
   refine ry (y_ext rfl rfl rfl) rfl rfl ?_
   refine ry (y_asg rfl rfl) rfl rfl ?_
   refine ry (y_asg rfl rfl) rfl rfl ?_
   refine reg_nil ?_
   refine fn_next ?_
   refine cw_seq ?_
   refine cw_reg ?_
   refine ry (y_mov rfl rfl) rfl rfl ?_
   refine ry (y_mov rfl rfl) rfl rfl ?_
   refine reg_op (op_call (mReadNo LA nl lc ls A n c l e z _ (hlr.below H11.base) hll (by omega) hBs hsz (hb.below H11.base) hl (by omega) hd he) rfl kflaw34_14 ⟨rfl, rfl, trivial⟩) rfl rfl ?_
   rintro _ w13 ⟨rfl, e12⟩
   have H14 := H11.ext e12
   refine ry (y_mov rfl rfl) rfl rfl ?_
   refine ry (y_ext rfl rfl rfl) rfl rfl ?_
   refine ry (y_ext rfl rfl rfl) rfl rfl ?_
   refine reg_op (op_alloc H14 rfl kflaw34_15) rfl rfl ?_
   rintro _ w16 ⟨b15, rfl, H17⟩
   refine reg_op (op_st (i := 0) (vs := [.int _ _, .int _ _, .slice _ _ _]) H17 rfl rfl rfl rfl rfl kflaw34_16 rfl rfl rfl) rfl rfl ?_
   rintro _ w18 H19
   refine ry (y_asg rfl rfl) rfl rfl ?_
   refine reg_nil ?_
   refine fn_next ?_
   refine cw_seq ?_
   refine cw_seq ?_
   refine cw_reg ?_
   refine ry (y_mov rfl rfl) rfl rfl ?_
   refine ry (y_mov rfl rfl) rfl rfl ?_
   refine ry (y_neq rfl rfl rfl) rfl rfl ?_
   refine reg_nil ?_
   refine fn_next ?_
   refine cw_condd rfl (fun h20 => ?_) (fun h20 => ?_)
   · exact (h20 rfl).elim
   ·skip
    refine cw_skip ?_
    refine fn_next ?_
    refine cw_seq ?_
    refine cw_seq ?_
    refine cw_reg ?_
    refine ry (y_mov rfl rfl) rfl rfl ?_
    refine ry (y_neq rfl rfl rfl) rfl rfl ?_
    refine reg_nil ?_
    refine fn_next ?_
    refine cw_condd rfl (fun h21 => ?_) (fun h21 => ?_)
    ·skip
     refine cw_seq ?_
     refine cw_reg ?_
     refine ry (y_mov rfl rfl) rfl rfl ?_
     refine ry (y_peqlnil rfl Try.underlying57 rfl rfl) rfl rfl ?_
     refine ry (y_asg rfl rfl) rfl rfl ?_
     refine reg_nil ?_
     refine fn_next ?_
     refine cw_ret ?_
     refine fn_then_ret ?_
     refine fn_ret1 rfl rfl ?_
     exact ⟨rfl, H19.base⟩
    · exact absurd he h21

set_option maxRecDepth 100000 in
set_option maxHeartbeats 1000000 in
theorem chartReads_ok (LA : Option Addr) (nl lc : Nat) (ls : List (List Int)) (A : Option Addr) (n c : Nat) (l : List Bd) (a : Nat) (acc : List Int) (w : World) (hlr : Rd w LA (strs ls)) (hll : ls.length = nl) (hBs : Byts ls) (hb : Rd w A (bcells l)) (hl : l.length = n) (hcap : n ≤ c) (hd : readM l ls = (0, a, acc)) :
    Ret Try.prog 7 [.slice LA nl lc, .slice A n c] w (fun z w' => z = .bool true ∧ Below w.heap.size w w') := by
 refine ret_enter Try.func7 rfl rfl rfl ?_
 have H0 := HS.start w
 refine cw_seq ?_
 refine cw_reg ?_
 refine ry (y_asg rfl rfl) rfl rfl ?_
 refine reg_nil ?_
 refine fn_next ?_
 refine cw_seq ?_
 refine cw_seq ?_
 refine cw_reg ?_
 refine reg_op (op_call (chartAwake _) rfl kflaw34_12 trivial) rfl rfl ?_
 rintro _ w2 ⟨rfl, e1⟩
 have H3 := H0.ext e1
 refine ry (y_not rfl rfl) rfl rfl ?_
 refine reg_nil ?_
 refine fn_next ?_
 refine cw_condf rfl ?_
 refine cw_skip ?_
 refine fn_next ?_
 refine cw_seq ?_
 refine cw_seq ?_
 refine cw_reg ?_
 refine ry (y_mov rfl rfl) rfl rfl ?_
 refine reg_op (op_call (lLong34 LA nl lc ls 300 _ (hlr.below H3.base) hll) rfl kflaw34_13 ⟨rfl, rfl, trivial⟩) rfl rfl ?_
 rintro _ w5 ⟨r, rfl, hlg, e4⟩
 have H6 := H3.ext e4
 refine ry (y_mov rfl rfl) rfl rfl ?_
 refine rg_split (d := 13) rfl (fun h7 => ?_) (fun h7 => ?_)
 ·skip
  refine rg_off rfl rfl rfl rfl rfl ?_
  refine rg_off rfl rfl rfl rfl rfl ?_
  refine rg_off rfl rfl rfl rfl rfl ?_
  refine ry (y_pick rfl rfl rfl) rfl rfl ?_
  refine reg_nil ?_
  refine fn_next ?_
  refine cw_condt rfl ?_
  refine cw_seq ?_
  refine cw_reg ?_
  refine ry (y_asg rfl rfl) rfl rfl ?_
  refine reg_nil ?_
  refine fn_next ?_
  refine cw_ret ?_
  refine fn_then_ret ?_
  refine fn_ret1 rfl rfl ?_
  exact ⟨rfl, H6.base⟩
 ·skip
  have hf := h7
  have hsz : ∀ s ∈ ls, s.length ≤ 1000000 := fun s hs => by obtain ⟨j, hj, rfl⟩ := List.mem_iff_getElem.1 hs; have := (hlg hf).2 j (by omega); rw [List.getD, List.getElem?_eq_getElem hj] at this; simp only [Option.getD_some] at this; omega
  have hnl := (hlg hf).1
  refine rgy (y_mov rfl rfl) rfl rfl rfl rfl ?_
  refine rgy (y_len rfl Try.underlying51 rfl) rfl rfl rfl rfl ?_
  refine rgy (y_gtr rfl rfl rfl) rfl rfl rfl rfl ?_
  refine ry (y_pick rfl rfl rfl) rfl rfl ?_
  refine reg_nil ?_
  refine fn_next ?_
  refine cw_condd rfl (fun h8 => ?_) (fun h8 => ?_)
  ·skip
   refine cw_seq ?_
   refine cw_reg ?_
   refine ry (y_asg rfl rfl) rfl rfl ?_
   refine reg_nil ?_
   refine fn_next ?_
   refine cw_ret ?_
   refine fn_then_ret ?_
   refine fn_ret1 rfl rfl ?_
   exact ⟨rfl, H6.base⟩
  ·skip
   refine cw_skip ?_
   refine fn_next ?_
   refine cw_seq ?_
   refine cw_reg ?_
   refine ry (y_mov rfl rfl) rfl rfl ?_
   refine ry (y_mov rfl rfl) rfl rfl ?_
   refine reg_op (op_call (readOk LA nl lc ls A n c l a acc _ (hlr.below H6.base) hll (by omega) hBs hsz (hb.below H6.base) hl (by omega) hcap hd) rfl kflaw34_9 ⟨rfl, rfl, trivial⟩) rfl rfl ?_
   rintro _ w10 ⟨g12, bl13, rfl, k9⟩
   have H11 := H6.call k9
   refine ry (y_mov rfl rfl) rfl rfl ?_
   refine ry (y_ext rfl rfl rfl) rfl rfl ?_
   refine ry (y_ext rfl rfl rfl) rfl rfl ?_
   refine ry (y_asg rfl rfl) rfl rfl ?_
   refine ry (y_asg rfl rfl) rfl rfl ?_
   refine reg_nil ?_
   refine fn_next ?_
   refine cw_seq ?_
   refine cw_reg ?_
   refine ry (y_mov rfl rfl) rfl rfl ?_
   refine ry (y_mov rfl rfl) rfl rfl ?_
   refine reg_op (op_call (mReadOk LA nl lc ls A n c l a acc _ (hlr.below H11.base) hll (by omega) hBs hsz (hb.below H11.base) hl (by omega) hd) rfl kflaw34_14 ⟨rfl, rfl, trivial⟩) rfl rfl ?_
   rintro _ w15 ⟨A17, c18, rfl, k14⟩
   have H16 := H11.call k14
   refine ry (y_mov rfl rfl) rfl rfl ?_
   refine ry (y_ext rfl rfl rfl) rfl rfl ?_
   refine ry (y_ext rfl rfl rfl) rfl rfl ?_
   refine reg_op (op_alloc H16 rfl kflaw34_15) rfl rfl ?_
   rintro _ w20 ⟨b19, rfl, H21⟩
   refine reg_op (op_st (i := 0) (vs := [.int _ _, .int _ _, .slice _ _ _]) H21 rfl rfl rfl rfl rfl kflaw34_16 rfl rfl rfl) rfl rfl ?_
   rintro _ w22 H23
   refine ry (y_asg rfl rfl) rfl rfl ?_
   refine reg_nil ?_
   refine fn_next ?_
   refine cw_seq ?_
   refine cw_seq ?_
   refine cw_reg ?_
   refine ry (y_mov rfl rfl) rfl rfl ?_
   refine ry (y_mov rfl rfl) rfl rfl ?_
   refine ry (y_neq rfl rfl rfl) rfl rfl ?_
   refine reg_nil ?_
   refine fn_next ?_
   refine cw_condf rfl ?_
   refine cw_skip ?_
   refine fn_next ?_
   refine cw_seq ?_
   refine cw_seq ?_
   refine cw_reg ?_
   refine ry (y_mov rfl rfl) rfl rfl ?_
   refine ry (y_neq rfl rfl rfl) rfl rfl ?_
   refine reg_nil ?_
   refine fn_next ?_
   refine cw_condf rfl ?_
   refine cw_skip ?_
   refine fn_next ?_
   refine cw_seq ?_
   refine cw_reg ?_
   refine ry (y_mov rfl rfl) rfl rfl ?_
   refine ry (y_ldb (i := 0) (cs := [_, _, _]) H23 rfl rfl kflaw34_17 rfl rfl) rfl rfl ?_
   refine reg_op (op_call (lIs _ a nl acc _ _ _ (H23.rdg (i := 2) rfl) (H23.rd (i := 1) rfl)) rfl kflaw34_18 ⟨rfl, rfl, trivial⟩) rfl rfl ?_
   rintro _ w25 ⟨rfl, e24⟩
   have H26 := H23.ext e24
   refine ry (y_asg rfl rfl) rfl rfl ?_
   refine reg_nil ?_
   refine fn_next ?_
   refine cw_ret ?_
   refine fn_ret1 rfl rfl ?_
   exact ⟨rfl, H26.base⟩

theorem chartReads_all (LA : Option Addr) (nl lc : Nat) (ls : List (List Int)) (A : Option Addr) (n c : Nat) (l : List Bd) (w : World) (hlr : Rd w LA (strs ls)) (hll : ls.length = nl) (hBs : Byts ls) (hb : Rd w A (bcells l)) (hl : l.length = n) (hcap : n ≤ c) : Ret Try.prog 7 [.slice LA nl lc, .slice A n c] w (fun z w' => z = .bool true ∧ Below w.heap.size w w') := by
  rcases hd : readM l ls with ⟨e, z⟩
  by_cases he : e = 0
  · subst he
    exact chartReads_ok LA nl lc ls A n c l z.1 z.2 w hlr hll hBs hb hl hcap hd
  · exact chartReads_no LA nl lc ls A n c l e z w hlr hll hBs hb hl hcap hd he

theorem chartReads_law (ls : List (List Int)) (A0 : Option Addr) (n0 c0 : Nat) (l : List Bd) (A1 : Option Addr) (n1 c1 : Nat) (W : World) (hls : Rd W A0 (strs ls)) (lls : ls.length = n0) (le0 : n0 ≤ c0) (mx0 : c0 ≤ maxLen) (wls : ∀ x ∈ ls, Byt x) (hl : Rd W A1 (bcells l)) (ll : l.length = n1) (le1 : n1 ≤ c1) (mx1 : c1 ≤ maxLen) (wl : ∀ x ∈ l, x.ok) :
    Calls Try.prog 7 #[.slice A0 n0 c0, .slice A1 n1 c1] W fun e w' => e = .returned (.bool true) ∧ Below W.heap.size W w' := lawOf (chartReads_all A0 n0 c0 ls A1 n1 c1 l W hls lls wls hl ll le1)

end Go.Proofs.Ytgkkbeomhkggjaa
