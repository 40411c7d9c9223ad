/- Layer 34: a line of signs, as a row. -/
import Derived.Test.YtgkkbeomhkggjaaDoorTint2
import Derived.Test.YtgkkbeomhkggjaaDoorPlain34b
set_option linter.unusedVariables false
set_option linter.unusedSimpArgs false
namespace Go.Proofs.YtgkkbeomhkggjaaDoor
open Go Go.RowKit
theorem kfchart1_1 : callB Tryd.prog 99 = true := by kernel_rfl
theorem kfchart1_2 : (Tryd.prog.info? 2).map (fun i => (i.size, i.zero.map Value.cells)) = some (1, some (List.toArray [(.int .i64 0)])) := by kernel_rfl
theorem kfchart1_3 : (Tryd.prog.info? 2).map (fun i => (i.zero.map (·.cells.toList), i.size, i.bytes)) = some (some [(.int .i64 0)], 1, 8) := by kernel_rfl
theorem tintBack_none (A : Option Addr) (n c : Nat) (l : List Bd) (s : Int) (w : World) (hr : rgtB l = true) (hb : Rd w A (bcells l)) (hl : l.length = n) (hn : n ≤ 100000000) (hcap : n ≤ c) (hs : backF l s = none) : Ret Tryd.prog 99 [.slice A n c, .int .i32 s] w (fun v_ w' => v_ = .tuple #[.int .i64 0, .int .i64 15] ∧ Below w.heap.size w w') := by
  have h1 := tintBack A n c l s w hb hl hn hcap
  simp only [hr, if_true, hs] at h1
  exact h1
theorem tintBack_some (A : Option Addr) (n c : Nat) (l : List Bd) (s f : Int) (w : World) (hr : rgtB l = true) (hb : Rd w A (bcells l)) (hl : l.length = n) (hn : n ≤ 100000000) (hcap : n ≤ c) (hs : backF l s = some f) : Ret Tryd.prog 99 [.slice A n c, .int .i32 s] w (fun v_ w' => v_ = .tuple #[.int .i64 f, .int .i64 0] ∧ Below w.heap.size w w') := by
  have h1 := tintBack A n c l s w hb hl hn hcap
  simp only [hr, if_true, hs] at h1
  exact h1

set_option maxRecDepth 100000 in
set_option maxHeartbeats 1000000 in
theorem rowNo (A : Option Addr) (n c : Nat) (l : List Bd) (s : List Int) (w : World) (hr : rgtB l = true) (hb : Rd w A (bcells l)) (hl : l.length = n) (hn : n ≤ 100000000) (hcap : n ≤ c) (hB : Byt s) (hsl : s.length ≤ 1000000) (hrow : rowM l s = none) :
    Ret Tryd.prog 69 [.string (bs s), .slice A n c] w (fun v w' => v = .tuple #[.slice none 0 0, .int .i64 15] ∧ Below w.heap.size w w') := by
 refine ret_enter Tryd.func69 rfl rfl rfl ?_
 have H0 := HS.start w
 refine cw_seq ?_
 refine cw_reg ?_
 refine ry (y_asg rfl rfl) rfl rfl ?_
 refine ry (y_asg rfl rfl) rfl rfl ?_
 refine reg_nil ?_
 refine fn_next ?_
 refine cw_seq ?_
 refine cw_reg ?_
 refine ry (y_asg rfl rfl) rfl rfl ?_
 refine reg_nil ?_
 refine fn_next ?_
 refine cw_seq ?_
 refine cw_seq ?_
 refine cw_reg ?_
 refine ry (y_mov rfl rfl) rfl rfl ?_
 refine reg_op (op_range H0 rfl Tryd.underlying9 rfl) rfl rfl ?_
 rintro _ w2 ⟨b1, rfl, H3⟩
 refine reg_nil ?_
 refine fn_next ?_
 refine cw_block ?_
 have H4 := H3.nilrow 2 1
 refine cw_loopJ [4, 5, 6, 8, 9, 10, 13, 14, 15, 16, 17, 18, 19, 20, 21, 22, 23, 24, 25, 26, 27, 28] (fun M wl ml => ∃ (p c2 : Nat) (acc : List Int) (A1 : Option Addr), M = [(6, .slice A1 acc.length c2)] ∧ HS w wl [itOb b1 s p, Ob.row A1 acc.length c2 (vi .i64 acc) 2 1] ∧ (p ≤ s.length) ∧ (acc.length ≤ p) ∧ (rowJ l s acc (s.drop p)) ∧ ml = s.length + 1 - p) ⟨0, 0, [], none, rfl, (H4.pick (m := [_, _]) [1, 0] rfl (by decide)), Nat.zero_le _, Nat.zero_le _, rowJ_init, rfl⟩ ⟨rfl, trivial⟩ ?_
 rintro M w5 m7 ⟨p, c2, acc, A1, rfl, H6, hps, hac, hJ, rfl⟩
 refine cw_seq ?_
 by_cases hp : p < s.length
 ·skip
  have hz := runeD_size (s.drop p)
  rw [List.length_drop] at hz
  refine cw_reg ?_
  refine reg_op (op_next (i := 0) H6 rfl rfl rfl (hB) (hp) rfl) rfl rfl ?_
  rintro _ w8 ⟨rfl, H9⟩
  refine ry (y_ext rfl rfl rfl) rfl rfl ?_
  refine reg_nil ?_
  refine fn_next ?_
  refine cw_seq ?_
  refine cw_condt rfl ?_
  refine cw_skip ?_
  refine fn_next ?_
  refine cw_block ?_
  refine cw_seq ?_
  refine cw_reg ?_
  refine ry (y_ext rfl rfl rfl) rfl rfl ?_
  refine ry (y_asg rfl rfl) rfl rfl ?_
  refine reg_nil ?_
  refine fn_next ?_
  refine cw_seq ?_
  rcases hbk : backF l (runeD (s.drop p)).1 with _ | f
  ·skip
   refine cw_reg ?_
   refine ry (y_mov rfl rfl) rfl rfl ?_
   refine ry (y_mov rfl rfl) rfl rfl ?_
   refine reg_op (op_call (tintBack_none A n c l _ _ hr (hb.below H9.base) hl hn hcap hbk) rfl kfchart1_1 ⟨rfl, rfl, trivial⟩) rfl rfl ?_
   rintro _ w11 ⟨rfl, e10⟩
   have H12 := H9.ext e10
   refine ry (y_mov rfl rfl) rfl rfl ?_
   refine ry (y_ext rfl rfl rfl) rfl rfl ?_
   refine ry (y_ext rfl rfl rfl) rfl rfl ?_
   refine ry (y_asg rfl rfl) rfl rfl ?_
   refine ry (y_asg rfl rfl) rfl rfl ?_
   refine reg_nil ?_
   refine fn_next ?_
   refine cw_seq ?_
   refine cw_seq ?_
   refine cw_reg ?_
   refine ry (y_mov rfl rfl) rfl rfl ?_
   refine ry (y_neq rfl rfl rfl) rfl rfl ?_
   refine reg_nil ?_
   refine fn_next ?_
   refine cw_condt rfl ?_
   refine cw_seq ?_
   refine cw_reg ?_
   refine ry (y_mov rfl rfl) rfl rfl ?_
   refine ry (y_asg rfl rfl) rfl rfl ?_
   refine ry (y_asg rfl rfl) rfl rfl ?_
   refine reg_nil ?_
   refine fn_next ?_
   refine cw_ret ?_
   refine fn_then_ret (fn_block_ret (fn_then_ret (fn_block_ret (fn_then_ret ?_))))
   refine fn_retn (vs := [_, _]) rfl ⟨rfl, rfl, trivial⟩ rfl ?_
   exact ⟨rfl, H12.base⟩
  ·skip
   refine cw_reg ?_
   refine ry (y_mov rfl rfl) rfl rfl ?_
   refine ry (y_mov rfl rfl) rfl rfl ?_
   refine reg_op (op_call (tintBack_some A n c l _ f _ hr (hb.below H9.base) hl hn hcap hbk) rfl kfchart1_1 ⟨rfl, rfl, trivial⟩) rfl rfl ?_
   rintro _ w14 ⟨rfl, e13⟩
   have H15 := H9.ext e13
   refine ry (y_mov rfl rfl) rfl rfl ?_
   refine ry (y_ext rfl rfl rfl) rfl rfl ?_
   refine ry (y_ext rfl rfl rfl) rfl rfl ?_
   refine ry (y_asg rfl rfl) rfl rfl ?_
   refine ry (y_asg rfl rfl) rfl rfl ?_
   refine reg_nil ?_
   refine fn_next ?_
   refine cw_seq ?_
   refine cw_seq ?_
   refine cw_reg ?_
   refine ry (y_mov rfl rfl) rfl rfl ?_
   refine ry (y_neq rfl rfl rfl) rfl rfl ?_
   refine reg_nil ?_
   refine fn_next ?_
   refine cw_condf rfl ?_
   refine cw_skip ?_
   refine fn_next ?_
   refine cw_reg ?_
   refine ry (y_mov rfl rfl) rfl rfl ?_
   refine ry (y_mov rfl rfl) rfl rfl ?_
   refine reg_op (op_lit (parts := [(0, _)]) (vs := [(0, _)]) (cs := [.int _ _]) H15 rfl Tryd.underlying22 kfchart1_2 rfl ⟨rfl, trivial⟩ rfl rfl) rfl rfl ?_
   rintro _ w17 ⟨b16, rfl, H18⟩
   have H19 := H18.asrow (m := 1) (size := 1) rfl (by decide)
   refine reg_op (op_app (i := 2) (ys := [.int .i64 f]) H19 rfl rfl rfl rfl (H19.rd (i := 0) rfl) (rfl) (rfl) Tryd.underlying22 kfchart1_3 rfl rfl (by unfold maxLen; omega) (by omega)) rfl rfl ?_
   rintro _ w22 ⟨A20, c21, rfl, H23⟩
   refine ry (y_asg rfl rfl) rfl rfl ?_
   refine reg_nil ?_
   refine fn_block ?_
   have hpl : acc.length + 1 = (acc ++ [f]).length := by rw [List.length_append]; rfl
   rw [vi_push, hpl] at H23
   refine fn_roundJ ⟨p + (runeD (s.drop p)).2, _, acc ++ [f], _, rfl, (H23.pick (m := [_, _]) [1, 2] rfl (by decide)), by omega, by rw [← hpl]; omega, by rw [← List.drop_drop]; exact rowJ_some hJ (by rw [List.length_drop]; omega) hbk, rfl⟩ ⟨by rw [← hpl]; rfl, trivial⟩ (by omega) (by repeat (first | exact kp_refl | refine kp_app rfl rfl ?_ | refine kp_cons rfl ?_)) rfl
 ·skip
  refine cw_reg ?_
  refine ry (y_nextend (i := 0) H6 rfl rfl rfl (hp)) rfl rfl ?_
  refine ry (y_ext rfl rfl rfl) rfl rfl ?_
  refine reg_nil ?_
  refine fn_next ?_
  refine cw_seq ?_
  refine cw_condf rfl ?_
  refine cw_exit ?_
  refine fn_then_exit (fn_then_exit (fn_block_exit ?_))
  refine fn_next ?_
  refine cw_seq ?_
  refine cw_reg ?_
  refine ry (y_mov rfl rfl) rfl rfl ?_
  refine ry (y_asg rfl rfl) rfl rfl ?_
  refine ry (y_asg rfl rfl) rfl rfl ?_
  refine reg_nil ?_
  refine fn_next ?_
  refine cw_ret ?_
  refine fn_retn (vs := [_, _]) rfl ⟨rfl, rfl, trivial⟩ rfl ?_
  have h1 := rowJ_end hJ (by rw [List.length_drop]; omega)
  rw [hrow] at h1; cases h1

set_option maxRecDepth 100000 in
set_option maxHeartbeats 1000000 in
theorem rowOk (A : Option Addr) (n c : Nat) (l : List Bd) (s : List Int) (r : List Int) (w : World) (hr : rgtB l = true) (hb : Rd w A (bcells l)) (hl : l.length = n) (hn : n ≤ 100000000) (hcap : n ≤ c) (hB : Byt s) (hsl : s.length ≤ 1000000) (hrow : rowM l s = some r) :
    Ret Tryd.prog 69 [.string (bs s), .slice A n c] w (fun v w' => ∃ A2 c2, v = .tuple #[.slice A2 r.length c2, .int .i64 0] ∧ HS w w' [.row A2 r.length c2 (vi .i64 r) 2 1]) := by
 refine ret_enter Tryd.func69 rfl rfl rfl ?_
 have H0 := HS.start w
 refine cw_seq ?_
 refine cw_reg ?_
 refine ry (y_asg rfl rfl) rfl rfl ?_
 refine ry (y_asg rfl rfl) rfl rfl ?_
 refine reg_nil ?_
 refine fn_next ?_
 refine cw_seq ?_
 refine cw_reg ?_
 refine ry (y_asg rfl rfl) rfl rfl ?_
 refine reg_nil ?_
 refine fn_next ?_
 refine cw_seq ?_
 refine cw_seq ?_
 refine cw_reg ?_
 refine ry (y_mov rfl rfl) rfl rfl ?_
 refine reg_op (op_range H0 rfl Tryd.underlying9 rfl) rfl rfl ?_
 rintro _ w2 ⟨b1, rfl, H3⟩
 refine reg_nil ?_
 refine fn_next ?_
 refine cw_block ?_
 have H4 := H3.nilrow 2 1
 refine cw_loopJ [4, 5, 6, 8, 9, 10, 13, 14, 15, 16, 17, 18, 19, 20, 21, 22, 23, 24, 25, 26, 27, 28] (fun M wl ml => ∃ (p c2 : Nat) (acc : List Int) (A1 : Option Addr), M = [(6, .slice A1 acc.length c2)] ∧ HS w wl [itOb b1 s p, Ob.row A1 acc.length c2 (vi .i64 acc) 2 1] ∧ (p ≤ s.length) ∧ (acc.length ≤ p) ∧ (rowJ l s acc (s.drop p)) ∧ ml = s.length + 1 - p) ⟨0, 0, [], none, rfl, (H4.pick (m := [_, _]) [1, 0] rfl (by decide)), Nat.zero_le _, Nat.zero_le _, rowJ_init, rfl⟩ ⟨rfl, trivial⟩ ?_
 rintro M w5 m7 ⟨p, c2, acc, A1, rfl, H6, hps, hac, hJ, rfl⟩
 refine cw_seq ?_
 by_cases hp : p < s.length
 ·skip
  have hz := runeD_size (s.drop p)
  rw [List.length_drop] at hz
  refine cw_reg ?_
  refine reg_op (op_next (i := 0) H6 rfl rfl rfl (hB) (hp) rfl) rfl rfl ?_
  rintro _ w8 ⟨rfl, H9⟩
  refine ry (y_ext rfl rfl rfl) rfl rfl ?_
  refine reg_nil ?_
  refine fn_next ?_
  refine cw_seq ?_
  refine cw_condt rfl ?_
  refine cw_skip ?_
  refine fn_next ?_
  refine cw_block ?_
  refine cw_seq ?_
  refine cw_reg ?_
  refine ry (y_ext rfl rfl rfl) rfl rfl ?_
  refine ry (y_asg rfl rfl) rfl rfl ?_
  refine reg_nil ?_
  refine fn_next ?_
  refine cw_seq ?_
  rcases hbk : backF l (runeD (s.drop p)).1 with _ | f
  ·skip
   refine cw_reg ?_
   refine ry (y_mov rfl rfl) rfl rfl ?_
   refine ry (y_mov rfl rfl) rfl rfl ?_
   refine reg_op (op_call (tintBack_none A n c l _ _ hr (hb.below H9.base) hl hn hcap hbk) rfl kfchart1_1 ⟨rfl, rfl, trivial⟩) rfl rfl ?_
   rintro _ w11 ⟨rfl, e10⟩
   have H12 := H9.ext e10
   refine ry (y_mov rfl rfl) rfl rfl ?_
   refine ry (y_ext rfl rfl rfl) rfl rfl ?_
   refine ry (y_ext rfl rfl rfl) rfl rfl ?_
   refine ry (y_asg rfl rfl) rfl rfl ?_
   refine ry (y_asg rfl rfl) rfl rfl ?_
   refine reg_nil ?_
   refine fn_next ?_
   refine cw_seq ?_
   refine cw_seq ?_
   refine cw_reg ?_
   refine ry (y_mov rfl rfl) rfl rfl ?_
   refine ry (y_neq rfl rfl rfl) rfl rfl ?_
   refine reg_nil ?_
   refine fn_next ?_
   refine cw_condt rfl ?_
   refine cw_seq ?_
   refine cw_reg ?_
   refine ry (y_mov rfl rfl) rfl rfl ?_
   refine ry (y_asg rfl rfl) rfl rfl ?_
   refine ry (y_asg rfl rfl) rfl rfl ?_
   refine reg_nil ?_
   refine fn_next ?_
   refine cw_ret ?_
   refine fn_then_ret (fn_block_ret (fn_then_ret (fn_block_ret (fn_then_ret ?_))))
   refine fn_retn (vs := [_, _]) rfl ⟨rfl, rfl, trivial⟩ rfl ?_
   have h1 := rowJ_none hJ (by rw [List.length_drop]; omega) hbk
   rw [hrow] at h1; cases h1
  ·skip
   refine cw_reg ?_
   refine ry (y_mov rfl rfl) rfl rfl ?_
   refine ry (y_mov rfl rfl) rfl rfl ?_
   refine reg_op (op_call (tintBack_some A n c l _ f _ hr (hb.below H9.base) hl hn hcap hbk) rfl kfchart1_1 ⟨rfl, rfl, trivial⟩) rfl rfl ?_
   rintro _ w14 ⟨rfl, e13⟩
   have H15 := H9.ext e13
   refine ry (y_mov rfl rfl) rfl rfl ?_
   refine ry (y_ext rfl rfl rfl) rfl rfl ?_
   refine ry (y_ext rfl rfl rfl) rfl rfl ?_
   refine ry (y_asg rfl rfl) rfl rfl ?_
   refine ry (y_asg rfl rfl) rfl rfl ?_
   refine reg_nil ?_
   refine fn_next ?_
   refine cw_seq ?_
   refine cw_seq ?_
   refine cw_reg ?_
   refine ry (y_mov rfl rfl) rfl rfl ?_
   refine ry (y_neq rfl rfl rfl) rfl rfl ?_
   refine reg_nil ?_
   refine fn_next ?_
   refine cw_condf rfl ?_
   refine cw_skip ?_
   refine fn_next ?_
   refine cw_reg ?_
   refine ry (y_mov rfl rfl) rfl rfl ?_
   refine ry (y_mov rfl rfl) rfl rfl ?_
   refine reg_op (op_lit (parts := [(0, _)]) (vs := [(0, _)]) (cs := [.int _ _]) H15 rfl Tryd.underlying22 kfchart1_2 rfl ⟨rfl, trivial⟩ rfl rfl) rfl rfl ?_
   rintro _ w17 ⟨b16, rfl, H18⟩
   have H19 := H18.asrow (m := 1) (size := 1) rfl (by decide)
   refine reg_op (op_app (i := 2) (ys := [.int .i64 f]) H19 rfl rfl rfl rfl (H19.rd (i := 0) rfl) (rfl) (rfl) Tryd.underlying22 kfchart1_3 rfl rfl (by unfold maxLen; omega) (by omega)) rfl rfl ?_
   rintro _ w22 ⟨A20, c21, rfl, H23⟩
   refine ry (y_asg rfl rfl) rfl rfl ?_
   refine reg_nil ?_
   refine fn_block ?_
   have hpl : acc.length + 1 = (acc ++ [f]).length := by rw [List.length_append]; rfl
   rw [vi_push, hpl] at H23
   refine fn_roundJ ⟨p + (runeD (s.drop p)).2, _, acc ++ [f], _, rfl, (H23.pick (m := [_, _]) [1, 2] rfl (by decide)), by omega, by rw [← hpl]; omega, by rw [← List.drop_drop]; exact rowJ_some hJ (by rw [List.length_drop]; omega) hbk, rfl⟩ ⟨by rw [← hpl]; rfl, trivial⟩ (by omega) (by repeat (first | exact kp_refl | refine kp_app rfl rfl ?_ | refine kp_cons rfl ?_)) rfl
 ·skip
  refine cw_reg ?_
  refine ry (y_nextend (i := 0) H6 rfl rfl rfl (hp)) rfl rfl ?_
  refine ry (y_ext rfl rfl rfl) rfl rfl ?_
  refine reg_nil ?_
  refine fn_next ?_
  refine cw_seq ?_
  refine cw_condf rfl ?_
  refine cw_exit ?_
  refine fn_then_exit (fn_then_exit (fn_block_exit ?_))
  refine fn_next ?_
  refine cw_seq ?_
  refine cw_reg ?_
  refine ry (y_mov rfl rfl) rfl rfl ?_
  refine ry (y_asg rfl rfl) rfl rfl ?_
  refine ry (y_asg rfl rfl) rfl rfl ?_
  refine reg_nil ?_
  refine fn_next ?_
  refine cw_ret ?_
  refine fn_retn (vs := [_, _]) rfl ⟨rfl, rfl, trivial⟩ rfl ?_
  have h1 := rowJ_end hJ (by rw [List.length_drop]; omega)
  rw [hrow] at h1; cases h1
  exact ⟨_, _, rfl, (H6.pick (m := [_]) [1] rfl (by decide))⟩

end Go.Proofs.YtgkkbeomhkggjaaDoor
