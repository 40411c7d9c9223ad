/- Layer 8: the law of nil. -/
import Derived.Test.YtkphmcaoioaglaaSlab2
import Derived.Test.YtkphmcaoioaglaaRef8
import Derived.Test.YtkphmcaoioaglaaKT
set_option linter.unusedVariables false
set_option linter.unusedSimpArgs false
namespace Go.Proofs.Ytkphmcaoioaglaa
open Go Go.RowKit
theorem kflaw8a_1 : callB Try.prog 26 = true := by kernel_rfl
theorem kflaw8a_2 : (Try.prog.info? 26).bind (fun i => i.zero.map Value.cells) = some (List.toArray [(.int .i64 0), (.int .i64 0)]) := by kernel_rfl
theorem kflaw8a_3 : callB Try.prog 30 = true := by kernel_rfl
theorem kflaw8a_4 : callB Try.prog 35 = true := by kernel_rfl
theorem kflaw8a_5 : callB Try.prog 25 = true := by kernel_rfl
theorem kflaw8a_6 : callB Try.prog 40 = true := by kernel_rfl
theorem kflaw8a_7 : aggB Try.prog 26 2 = true := by kernel_rfl
theorem kflaw8a_8 : callB Try.prog 39 = true := by kernel_rfl
theorem kflaw8a_9 : aggB Try.prog 24 4 = true := by kernel_rfl
theorem kflaw8a_10 : callB Try.prog 27 = true := by kernel_rfl
theorem kflaw8a_11 : callB Try.prog 37 = true := by kernel_rfl
theorem kflaw8a_12 : (Try.prog.info? 68).bind (fun i => i.zero.map Value.cells) = some (List.toArray [(.int .i64 0), (.int .i64 0)]) := by kernel_rfl
theorem kflaw8a_13 : seqB Try.prog 68 2 = true := by kernel_rfl
theorem kflaw8a_14 : callB Try.prog 28 = true := by kernel_rfl
theorem kflaw8a_15 : callB Try.prog 29 = true := by kernel_rfl
theorem kflaw8a_16 : elB Try.prog 32 1 = true := by kernel_rfl
theorem kflaw8a_17 : oneB Try.prog 2 = true := by kernel_rfl
theorem kflaw8a_18 : szB Try.prog 2 1 = true := by kernel_rfl
theorem kflaw8a_19 : (Try.prog.info? 2).map (fun i => (i.size, i.zero.map Value.cells)) = some (1, some (List.toArray [(.int .i64 0)])) := by kernel_rfl
theorem kflaw8a_20 : callB Try.prog 31 = true := by kernel_rfl
theorem slabNew_two (a h : Nat) (v : Int) (w : World) (p : sizeP a h) (hv : B32 v) : Ret Try.prog 26 [.int .i64 (a : Int), .int .i64 (h : Int), .int .i64 v] w (fun u w' => ∃ b, u = .tuple #[.pointer (some ⟨b, 0, none⟩), .int .i64 0] ∧ HS w w' [.blk b [.int .i64 (a : Int), .int .i64 (h : Int), (Ld.flat v).val (a * h)] 124, (Ld.flat v).ob (a * h)]) :=
  Calls.mono (slabNew_ok a h v w p hv) fun e w' ⟨u, he, b, hu, hk⟩ => ⟨u, he, b, hu, (hk.nilrow _ _).pick (m := [_, _]) [1, 0] rfl (by decide)⟩
instance (a h : Nat) : Decidable (sizeP a h) := by unfold sizeP; infer_instance
theorem flat_is {f : FuncId} {args : List Value} {w : World} {V : List Int} {n : Nat} {x : Int} {c : Bool} (h : flS V n = (x, c)) (k : Ret Try.prog f args w (fun v w' => v = .tuple #[.int .i64 (flS V n).1, .bool (flS V n).2] ∧ Below w.heap.size w w')) : Ret Try.prog f args w (fun v w' => v = .tuple #[.int .i64 x, .bool c] ∧ Below w.heap.size w w') := by
  rw [h] at k; exact k

set_option maxRecDepth 100000 in
theorem slabAwake  (w : World) :
    Ret Try.prog 25 [] w (fun v w' => v = .bool true ∧ Below w.heap.size w w') := by
  refine ret_enter Try.func25 rfl rfl rfl ?_
  have H0 := HS.start w
  refine cw_seq ?_
  refine cw_reg ?_
  refine ry (y_asg rfl rfl) rfl rfl ?_
  refine reg_nil ?_
  refine fn_next ?_
  refine cw_seq ?_
  refine cw_reg ?_
  refine reg_op (op_call (slabNew_two 2 1 5 _ (by decide) (by decide)) rfl kflaw8a_1 ⟨rfl, rfl, rfl, trivial⟩) rfl rfl ?_
  rintro _ w2 ⟨b4, rfl, k1⟩
  have H3 := H0.call k1
  refine ry (y_mov rfl rfl) rfl rfl ?_
  refine ry (y_ext rfl rfl rfl) rfl rfl ?_
  refine ry (y_ext rfl rfl rfl) rfl rfl ?_
  refine ry (y_asg rfl rfl) rfl rfl ?_
  refine ry (y_asg rfl rfl) rfl rfl ?_
  refine reg_nil ?_
  refine fn_next ?_
  refine cw_seq ?_
  refine cw_reg ?_
  refine ry (y_mov rfl rfl) rfl rfl ?_
  refine ry (y_build (places := [(0, 1), (1, 1)]) (parts := [(0, _)]) (vs := [(0, _)]) (cs := [.int _ _, .int _ _]) rfl Try.underlying26 (by kernel_rfl) kflaw8a_2 rfl ⟨rfl, trivial⟩ rfl) rfl rfl ?_
  refine reg_op (op_call (slabSet_any w _ b4 2 1 (Ld.flat 5) 1 0 6 _ (by decide) ((show B32 5 by decide)) H3) rfl kflaw8a_3 ⟨rfl, rfl, rfl, trivial⟩) rfl rfl ?_
  rintro _ w6 ⟨L7, rfl, H5, o8, e9⟩
  have e1 : L7.lst (2 * 1) = [5, 6] := by rw [e9]; decide +kernel
  have o1 := o8
  have c1 : fillC 2 1 1 0 1 0 6 = 0 := by decide +kernel
  refine ry (y_asg rfl rfl) rfl rfl ?_
  refine reg_nil ?_
  refine fn_next ?_
  refine cw_seq ?_
  refine cw_reg ?_
  refine ry (y_mov rfl rfl) rfl rfl ?_
  refine reg_op (op_call (flat_is (x := 0) (c := false) (by rw [e1]; decide) (slabFlat_any b4 2 1 L7 _ (by decide) o1 (Ld.rd_of (L := L7) H5 (i := 1) rfl) (H5.rdb (i := 0) rfl))) rfl kflaw8a_4 ⟨rfl, trivial⟩) rfl rfl ?_
  rintro _ w11 ⟨rfl, e10⟩
  have H12 := H5.ext e10
  refine ry (y_mov rfl rfl) rfl rfl ?_
  refine ry (y_ext rfl rfl rfl) rfl rfl ?_
  refine ry (y_ext rfl rfl rfl) rfl rfl ?_
  refine ry (y_asg rfl rfl) rfl rfl ?_
  refine ry (y_asg rfl rfl) rfl rfl ?_
  refine reg_nil ?_
  refine fn_next ?_
  refine cw_seq ?_
  refine cw_reg ?_
  refine ry (y_mov rfl rfl) rfl rfl ?_
  refine ry (y_build (places := [(0, 1), (1, 1)]) (parts := [(0, _)]) (vs := [(0, _)]) (cs := [.int _ _, .int _ _]) rfl Try.underlying26 (by kernel_rfl) kflaw8a_2 rfl ⟨rfl, trivial⟩ rfl) rfl rfl ?_
  refine reg_op (op_call (slabSet_any w _ b4 2 1 L7 1 0 5 _ (by decide) (o1) H12) rfl kflaw8a_3 ⟨rfl, rfl, rfl, trivial⟩) rfl rfl ?_
  rintro _ w14 ⟨L15, rfl, H13, o16, e17⟩
  have e2 : L15.lst (2 * 1) = [5, 5] := by rw [e17, e1]; decide +kernel
  have o2 := o16
  have c2 : fillC 2 1 1 0 1 0 5 = 0 := by decide +kernel
  refine ry (y_asg rfl rfl) rfl rfl ?_
  refine reg_nil ?_
  refine fn_next ?_
  refine cw_seq ?_
  refine cw_reg ?_
  refine ry (y_mov rfl rfl) rfl rfl ?_
  refine reg_op (op_call (flat_is (x := 5) (c := true) (by rw [e2]; decide) (slabFlat_any b4 2 1 L15 _ (by decide) o2 (Ld.rd_of (L := L15) H13 (i := 1) rfl) (H13.rdb (i := 0) rfl))) rfl kflaw8a_4 ⟨rfl, trivial⟩) rfl rfl ?_
  rintro _ w19 ⟨rfl, e18⟩
  have H20 := H13.ext e18
  refine ry (y_mov rfl rfl) rfl rfl ?_
  refine ry (y_ext rfl rfl rfl) rfl rfl ?_
  refine ry (y_ext rfl rfl rfl) rfl rfl ?_
  refine ry (y_asg rfl rfl) rfl rfl ?_
  refine ry (y_asg rfl rfl) rfl rfl ?_
  refine reg_nil ?_
  refine fn_next ?_
  refine cw_seq ?_
  refine cw_reg ?_
  refine ry (y_mov rfl rfl) rfl rfl ?_
  refine ry (y_eql rfl rfl rfl) rfl rfl ?_
  refine ry (y_mov rfl rfl) rfl rfl ?_
  refine rg_splitd (d := 31) rfl (fun h21 => ?_) (fun h21 => ?_)
  · skip
    refine rgy (y_mov rfl rfl) rfl rfl rfl rfl ?_
    refine rgy (y_eql rfl rfl rfl) rfl rfl rfl rfl ?_
    refine ry (y_pick rfl rfl rfl) rfl rfl ?_
    refine ry (y_mov rfl rfl) rfl rfl ?_
    refine rg_splitd (d := 35) rfl (fun h22 => ?_) (fun h22 => ?_)
    · skip
      refine rgy (y_mov rfl rfl) rfl rfl rfl rfl ?_
      refine rgy (y_eql rfl rfl rfl) rfl rfl rfl rfl ?_
      refine ry (y_pick rfl rfl rfl) rfl rfl ?_
      refine ry (y_mov rfl rfl) rfl rfl ?_
      refine rg_splitd (d := 39) rfl (fun h23 => ?_) (fun h23 => ?_)
      · skip
        refine rgy (y_mov rfl rfl) rfl rfl rfl rfl ?_
        refine rgy (y_not rfl rfl) rfl rfl rfl rfl ?_
        refine ry (y_pick rfl rfl rfl) rfl rfl ?_
        refine ry (y_mov rfl rfl) rfl rfl ?_
        refine rgy (y_mov rfl rfl) rfl rfl rfl rfl ?_
        refine ry (y_pick rfl rfl rfl) rfl rfl ?_
        refine ry (y_mov rfl rfl) rfl rfl ?_
        refine rgy (y_mov rfl rfl) rfl rfl rfl rfl ?_
        refine rgy (y_eql rfl rfl rfl) rfl rfl rfl rfl ?_
        refine ry (y_pick rfl rfl rfl) rfl rfl ?_
        refine ry (y_asg rfl rfl) rfl rfl ?_
        refine reg_nil ?_
        refine fn_next ?_
        refine cw_ret ?_
        refine fn_ret1 rfl rfl ?_
        exact ⟨rfl, H20.base⟩
      · exact absurd c2 h23
    · exact absurd c1 h22
  · exact absurd rfl h21

set_option maxRecDepth 100000 in
theorem slabNil_walk (x y x0 y0 x1 y1 u : Int) (w : World) :
    Ret Try.prog 7 [.agg #[.int .i64 x, .int .i64 y], .agg #[.int .i64 x0, .int .i64 y0, .int .i64 x1, .int .i64 y1], .int .i64 u] w (fun v w' => v = .bool true ∧ Below w.heap.size w w') := by
  refine ret_enter Try.func7 rfl rfl rfl ?_
  have H0 := HS.start w
  refine cw_seq ?_
  refine cw_reg ?_
  refine reg_op (op_box (cs := [.int _ _, .int _ _]) H0 rfl rfl rfl) rfl rfl ?_
  rintro _ w2 ⟨b1, rfl, H3⟩
  refine reg_op (op_box (cs := [.int _ _, .int _ _, .int _ _, .int _ _]) H3 rfl rfl rfl) rfl rfl ?_
  rintro _ w5 ⟨b4, rfl, H6⟩
  refine ry (y_asg rfl rfl) rfl rfl ?_
  refine reg_nil ?_
  refine fn_next ?_
  refine cw_seq ?_
  refine cw_seq ?_
  refine cw_reg ?_
  refine reg_op (op_call (slabAwake _) rfl kflaw8a_5 trivial) rfl rfl ?_
  rintro _ w8 ⟨rfl, e7⟩
  have H9 := H6.ext e7
  refine ry (y_not rfl rfl) rfl rfl ?_
  refine reg_nil ?_
  refine fn_next ?_
  refine cw_condf rfl ?_
  refine cw_skip ?_
  refine fn_next ?_
  refine cw_seq ?_
  refine cw_reg ?_
  refine ry (y_asg rfl rfl) rfl rfl ?_
  refine reg_nil ?_
  refine fn_next ?_
  refine cw_seq ?_
  refine cw_reg ?_
  refine ry (y_mov rfl rfl) rfl rfl ?_
  refine reg_op (op_call (slabNil_Size _) rfl kflaw8a_6 ⟨rfl, trivial⟩) rfl rfl ?_
  rintro _ w11 ⟨rfl, e10⟩
  have H12 := H9.ext e10
  refine ry (y_mov rfl rfl) rfl rfl ?_
  refine ry (y_ext rfl rfl rfl) rfl rfl ?_
  refine ry (y_ext rfl rfl rfl) rfl rfl ?_
  refine ry (y_asg rfl rfl) rfl rfl ?_
  refine ry (y_asg rfl rfl) rfl rfl ?_
  refine reg_nil ?_
  refine fn_next ?_
  refine cw_seq ?_
  refine cw_reg ?_
  refine ry (y_mov rfl rfl) rfl rfl ?_
  refine ry (y_ldb (i := 1) (cs := [_, _]) H12 rfl rfl kflaw8a_7 rfl rfl) rfl rfl ?_
  refine reg_op (op_call (slabNil_At x y _) rfl kflaw8a_8 ⟨rfl, rfl, trivial⟩) rfl rfl ?_
  rintro _ w14 ⟨rfl, e13⟩
  have H15 := H12.ext e13
  refine ry (y_mov rfl rfl) rfl rfl ?_
  refine ry (y_ext rfl rfl rfl) rfl rfl ?_
  refine ry (y_ext rfl rfl rfl) rfl rfl ?_
  refine ry (y_asg rfl rfl) rfl rfl ?_
  refine ry (y_asg rfl rfl) rfl rfl ?_
  refine reg_nil ?_
  refine fn_next ?_
  refine cw_seq ?_
  refine cw_reg ?_
  refine ry (y_mov rfl rfl) rfl rfl ?_
  refine reg_op (op_call (slabNil_Flat _) rfl kflaw8a_4 ⟨rfl, trivial⟩) rfl rfl ?_
  rintro _ w17 ⟨rfl, e16⟩
  have H18 := H15.ext e16
  refine ry (y_mov rfl rfl) rfl rfl ?_
  refine ry (y_ext rfl rfl rfl) rfl rfl ?_
  refine ry (y_ext rfl rfl rfl) rfl rfl ?_
  refine ry (y_asg rfl rfl) rfl rfl ?_
  refine ry (y_asg rfl rfl) rfl rfl ?_
  refine reg_nil ?_
  refine fn_next ?_
  refine cw_seq ?_
  refine cw_seq ?_
  refine cw_reg ?_
  refine ry (y_mov rfl rfl) rfl rfl ?_
  refine ry (y_neq rfl rfl rfl) rfl rfl ?_
  refine ry (y_mov rfl rfl) rfl rfl ?_
  refine rg_splitd (d := 38) rfl (fun h19 => ?_) (fun h19 => ?_)
  · exact absurd rfl h19
  · skip
    refine rgy (y_mov rfl rfl) rfl rfl rfl rfl ?_
    refine rgy (y_neq rfl rfl rfl) rfl rfl rfl rfl ?_
    refine ry (y_pick rfl rfl rfl) rfl rfl ?_
    refine ry (y_mov rfl rfl) rfl rfl ?_
    refine rg_splitd (d := 42) rfl (fun h20 => ?_) (fun h20 => ?_)
    · exact absurd rfl h20
    · skip
      refine rgy (y_mov rfl rfl) rfl rfl rfl rfl ?_
      refine rgy (y_neq rfl rfl rfl) rfl rfl rfl rfl ?_
      refine ry (y_pick rfl rfl rfl) rfl rfl ?_
      refine ry (y_mov rfl rfl) rfl rfl ?_
      refine rg_splitd (d := 46) rfl (fun h21 => ?_) (fun h21 => ?_)
      · exact absurd rfl h21
      · skip
        refine rgy (y_mov rfl rfl) rfl rfl rfl rfl ?_
        refine rgy (y_neq rfl rfl rfl) rfl rfl rfl rfl ?_
        refine ry (y_pick rfl rfl rfl) rfl rfl ?_
        refine ry (y_mov rfl rfl) rfl rfl ?_
        refine rg_splitd (d := 50) rfl (fun h22 => ?_) (fun h22 => ?_)
        · exact absurd rfl h22
        · skip
          refine rgy (y_mov rfl rfl) rfl rfl rfl rfl ?_
          refine rgy (y_ldb (i := 1) (cs := [_, _]) H18 rfl rfl kflaw8a_7 rfl rfl) rfl rfl rfl rfl ?_
          refine rgy (y_mov rfl rfl) rfl rfl rfl rfl ?_
          refine rg_on rfl rfl rfl (op_call (slabNil_Set x y u _) rfl kflaw8a_3 ⟨rfl, rfl, rfl, trivial⟩) rfl ?_
          rintro _ w24 ⟨rfl, e23⟩
          have H25 := H18.ext e23
          refine rgy (y_neq rfl rfl rfl) rfl rfl rfl rfl ?_
          refine ry (y_pick rfl rfl rfl) rfl rfl ?_
          refine ry (y_mov rfl rfl) rfl rfl ?_
          refine rg_splitd (d := 57) rfl (fun h26 => ?_) (fun h26 => ?_)
          · exact absurd rfl h26
          · skip
            refine rgy (y_mov rfl rfl) rfl rfl rfl rfl ?_
            refine rgy (y_ldb (i := 0) (cs := [_, _, _, _]) H25 rfl rfl kflaw8a_9 rfl rfl) rfl rfl rfl rfl ?_
            refine rgy (y_mov rfl rfl) rfl rfl rfl rfl ?_
            refine rg_on rfl rfl rfl (op_call (slabNil_Fill x0 y0 x1 y1 u _) rfl kflaw8a_10 ⟨rfl, rfl, rfl, trivial⟩) rfl ?_
            rintro _ w28 ⟨rfl, e27⟩
            have H29 := H25.ext e27
            refine rgy (y_neq rfl rfl rfl) rfl rfl rfl rfl ?_
            refine ry (y_pick rfl rfl rfl) rfl rfl ?_
            refine ry (y_mov rfl rfl) rfl rfl ?_
            refine rg_splitd (d := 64) rfl (fun h30 => ?_) (fun h30 => ?_)
            · exact absurd rfl h30
            · skip
              refine rgy (y_mov rfl rfl) rfl rfl rfl rfl ?_
              refine rgy (y_neq rfl rfl rfl) rfl rfl rfl rfl ?_
              refine ry (y_pick rfl rfl rfl) rfl rfl ?_
              refine ry (y_mov rfl rfl) rfl rfl ?_
              refine rg_splitd (d := 68) rfl (fun h31 => ?_) (fun h31 => ?_)
              · exact absurd rfl h31
              · skip
                refine rgy (y_mov rfl rfl) rfl rfl rfl rfl ?_
                refine ry (y_pick rfl rfl rfl) rfl rfl ?_
                refine ry (y_mov rfl rfl) rfl rfl ?_
                refine rgy (y_mov rfl rfl) rfl rfl rfl rfl ?_
                refine rg_on rfl rfl rfl (op_call (slabNil_Range _) rfl kflaw8a_11 ⟨rfl, trivial⟩) rfl ?_
                rintro _ w33 ⟨rfl, e32⟩
                have H34 := H29.ext e32
                refine rgy (y_build (places := [(0, 1), (1, 1)]) (parts := []) (vs := []) (cs := [.int _ _, .int _ _]) rfl Try.underlying68 (by kernel_rfl) kflaw8a_12 rfl trivial rfl) rfl rfl rfl rfl ?_
                refine rgy (y_seq (ks := [.i64, .i64]) (a := [0, 0]) (b := [0, 0]) rfl (.inr ⟨rfl, rfl⟩) kflaw8a_13 rfl rfl rfl rfl rfl rfl rfl) rfl rfl rfl rfl ?_
                refine ry (y_pick rfl rfl rfl) rfl rfl ?_
                refine ry (y_mov rfl rfl) rfl rfl ?_
                refine rg_splitd (d := 77) rfl (fun h35 => ?_) (fun h35 => ?_)
                · exact absurd rfl h35
                · skip
                  refine rgy (y_mov rfl rfl) rfl rfl rfl rfl ?_
                  refine rg_on rfl rfl rfl (op_call (slabNil_Cells _) rfl kflaw8a_14 ⟨rfl, trivial⟩) rfl ?_
                  rintro _ w37 ⟨rfl, e36⟩
                  have H38 := H34.ext e36
                  refine rgy (y_len rfl Try.underlying32 rfl) rfl rfl rfl rfl ?_
                  refine rgy (y_neq rfl rfl rfl) rfl rfl rfl rfl ?_
                  refine ry (y_pick rfl rfl rfl) rfl rfl ?_
                  refine ry (y_mov rfl rfl) rfl rfl ?_
                  refine rg_splitd (d := 83) rfl (fun h39 => ?_) (fun h39 => ?_)
                  · exact absurd rfl h39
                  · skip
                    refine rgy (y_mov rfl rfl) rfl rfl rfl rfl ?_
                    refine rg_on rfl rfl rfl (op_call (slabNil_Copy _) rfl kflaw8a_15 ⟨rfl, trivial⟩) rfl ?_
                    rintro _ w41 ⟨rfl, e40⟩
                    have H42 := H38.ext e40
                    refine rgy (y_pneqnil rfl Try.underlying51 rfl rfl) rfl rfl rfl rfl ?_
                    refine ry (y_pick rfl rfl rfl) rfl rfl ?_
                    refine reg_nil ?_
                    refine fn_next ?_
                    refine cw_condf rfl ?_
                    refine cw_skip ?_
                    refine fn_next ?_
                    refine cw_seq ?_
                    refine cw_reg ?_
                    refine reg_op (op_call (slabNew_two 3 2 4 _ (by decide) (by decide)) rfl kflaw8a_1 ⟨rfl, rfl, rfl, trivial⟩) rfl rfl ?_
                    rintro _ w44 ⟨b46, rfl, k43⟩
                    have H45 := H42.call k43
                    refine ry (y_mov rfl rfl) rfl rfl ?_
                    refine ry (y_ext rfl rfl rfl) rfl rfl ?_
                    refine ry (y_ext rfl rfl rfl) rfl rfl ?_
                    refine ry (y_asg rfl rfl) rfl rfl ?_
                    refine ry (y_asg rfl rfl) rfl rfl ?_
                    refine reg_nil ?_
                    refine fn_next ?_
                    refine cw_seq ?_
                    refine cw_reg ?_
                    refine ry (y_mov rfl rfl) rfl rfl ?_
                    refine ry (y_build (places := [(0, 1), (1, 1)]) (parts := [(0, _), (1, _)]) (vs := [(0, _), (1, _)]) (cs := [.int _ _, .int _ _]) rfl Try.underlying26 (by kernel_rfl) kflaw8a_2 rfl ⟨rfl, rfl, trivial⟩ rfl) rfl rfl ?_
                    refine reg_op (op_call (slabSet_any w _ b46 3 2 (Ld.flat 4) 1 1 9 _ (by decide) ((show B32 4 by decide)) H45) rfl kflaw8a_3 ⟨rfl, rfl, rfl, trivial⟩) rfl rfl ?_
                    rintro _ w48 ⟨L49, rfl, H47, o50, e51⟩
                    have e1 : L49.lst (3 * 2) = [4, 4, 4, 4, 9, 4] := by rw [e51]; decide +kernel
                    have o1 := o50
                    refine reg_nil ?_
                    refine fn_next ?_
                    refine cw_seq ?_
                    refine cw_reg ?_
                    refine ry (y_mov rfl rfl) rfl rfl ?_
                    refine reg_op (op_call (slabCells_any b46 3 2 L49 _ (by decide) o1 (Ld.rd_of (L := L49) H47 (i := 1) rfl) (H47.rdb (i := 0) rfl)) rfl kflaw8a_14 ⟨rfl, trivial⟩) rfl rfl ?_
                    rintro _ w53 ⟨A55, c56, rfl, k52⟩
                    have H54 := H47.call k52
                    refine ry (y_asg rfl rfl) rfl rfl ?_
                    refine reg_nil ?_
                    refine fn_next ?_
                    refine cw_seq ?_
                    refine cw_seq ?_
                    refine cw_reg ?_
                    refine ry (y_asg rfl rfl) rfl rfl ?_
                    refine reg_nil ?_
                    refine fn_next ?_
                    refine cw_block ?_
                    rw [e1] at H54
                    refine cw_loopJ [17, 97, 98, 99, 100, 101, 102, 103, 104, 105, 106, 107, 108, 109, 110] (fun M wl ml => ∃ (i : Nat) (Z : List Int), M = [(17, .int .i64 (i : Int))] ∧ HS w wl [Ob.row A55 (3 * 2) c56 (vi .i64 Z) 2 1, Ob.blk b46 [.int .i64 ((3 : Nat) : Int), .int .i64 ((2 : Nat) : Int), L49.val (3 * 2)] 124, L49.ob (3 * 2)] ∧ (i ≤ 6) ∧ (Z.length = 6) ∧ ml = 6 - i) ⟨0, [4, 4, 4, 4, 9, 4], rfl, (H54.pick (m := [_, _, _]) [0, 1, 2] rfl (by decide)), Nat.zero_le _, rfl, rfl⟩ ⟨rfl, trivial⟩ ?_
                    rintro M w57 m59 ⟨i, Z, rfl, H58, hp0, hp1, rfl⟩
                    refine cw_seq ?_
                    refine cw_seq ?_
                    refine cw_reg ?_
                    refine ry (y_mov rfl rfl) rfl rfl ?_
                    refine ry (y_mov rfl rfl) rfl rfl ?_
                    refine ry (y_len rfl Try.underlying32 rfl) rfl rfl ?_
                    refine ry (y_lss rfl rfl rfl) rfl rfl ?_
                    refine reg_nil ?_
                    refine fn_next ?_
                    refine cw_condd rfl (fun h60 => ?_) (fun h60 => ?_)
                    · skip
                      have hgi := vi_get (k := .i64) (zs := Z) (i := i) (by omega)
                      refine cw_skip ?_
                      refine fn_next ?_
                      refine cw_seq ?_
                      refine cw_block ?_
                      refine cw_reg ?_
                      refine ry (y_mov rfl rfl) rfl rfl ?_
                      refine ry (y_mov rfl rfl) rfl rfl ?_
                      refine ry (y_mov rfl rfl) rfl rfl ?_
                      refine ry (y_mov rfl rfl) rfl rfl ?_
                      refine ry (y_iar (H58.rd (i := 0) rfl) rfl rfl rfl kflaw8a_16 (rfl) (by omega) (Nat.mul_one _) (hgi)) rfl rfl ?_
                      refine ry (y_ldr (H58.rd (i := 0) rfl) rfl rfl kflaw8a_17 (hgi)) rfl rfl ?_
                      refine ry (y_add rfl rfl rfl (rfl)) rfl rfl ?_
                      refine ry (y_iar (H58.rd (i := 0) rfl) rfl rfl rfl kflaw8a_16 (rfl) (by omega) (Nat.mul_one _) (hgi)) rfl rfl ?_
                      refine reg_op (op_ste (i := 0) (vs := [.int _ _]) H58 rfl rfl rfl rfl rfl kflaw8a_18 rfl (by rw [vi_len]; simp; omega) rfl rfl) rfl rfl ?_
                      rintro _ w61 H62
                      refine reg_nil ?_
                      refine fn_block ?_
                      refine fn_next ?_
                      refine cw_reg ?_
                      refine ry (y_mov rfl rfl) rfl rfl ?_
                      refine ry (y_add rfl rfl rfl (wi (by omega))) rfl rfl ?_
                      refine ry (y_asg rfl rfl) rfl rfl ?_
                      refine reg_nil ?_
                      rw [vi_set] at H62
                      refine fn_roundJ ⟨i + 1, _, rfl, H62, by omega, by rw [List.length_set]; exact hp1, rfl⟩ ⟨rfl, trivial⟩ (by omega) (by repeat (first | exact kp_refl | refine kp_app rfl rfl ?_ | refine kp_cons rfl ?_)) rfl
                    · skip
                      refine cw_exit ?_
                      refine fn_then_exit (fn_then_exit (fn_block_exit ?_))
                      refine fn_next ?_
                      refine cw_seq ?_
                      refine cw_reg ?_
                      refine ry (y_mov rfl rfl) rfl rfl ?_
                      refine reg_op (op_call (slabCells_any b46 3 2 L49 _ (by decide) o1 (Ld.rd_of (L := L49) H58 (i := 2) rfl) (H58.rdb (i := 1) rfl)) rfl kflaw8a_14 ⟨rfl, trivial⟩) rfl rfl ?_
                      rintro _ w64 ⟨A66, c67, rfl, k63⟩
                      have H65 := H58.call k63
                      refine reg_op (op_lit (parts := [(0, _), (1, _), (2, _), (3, _), (4, _), (5, _)]) (vs := [(0, _), (1, _), (2, _), (3, _), (4, _), (5, _)]) (cs := [.int _ _, .int _ _, .int _ _, .int _ _, .int _ _, .int _ _]) H65 rfl Try.underlying32 kflaw8a_19 rfl ⟨rfl, rfl, rfl, rfl, rfl, rfl, trivial⟩ rfl rfl) rfl rfl ?_
                      rintro _ w69 ⟨b68, rfl, H70⟩
                      have H71 := H70.asrow (m := 6) (size := 1) rfl (by decide)
                      refine reg_op (op_call (refSame_any _ (3 * 2) _ (L49.lst (3 * 2)) _ 6 _ [4, 4, 4, 4, 9, 4] _ (H71.rd (i := 1) rfl) (by rw [e1]; rfl) (H71.rd (i := 0) rfl) rfl (by decide)) rfl kflaw8a_20 ⟨rfl, rfl, trivial⟩) rfl rfl ?_
                      rintro _ w73 ⟨rfl, e72⟩
                      have H74 := H71.ext e72
                      refine ry (y_asg rfl rfl) rfl rfl ?_
                      refine reg_nil ?_
                      refine fn_next ?_
                      refine cw_ret ?_
                      refine fn_ret1 rfl rfl ?_
                      rw [decide_eq_true e1]
                      exact ⟨rfl, H74.base⟩

theorem law_of {P : Program} {f : FuncId} {args : List Value} {w : World} (h : Ret P f args w (fun v w' => v = .bool true ∧ Below w.heap.size w w')) : Calls P f args.toArray w fun e w' => e = .returned (.bool true) ∧ Below w.heap.size w w' :=
  Calls.mono h fun e w' ⟨v, he, hv, hb⟩ => ⟨by rw [he, hv], hb⟩
def I64b (x : Int) : Prop := -9223372036854775808 ≤ x ∧ x ≤ 9223372036854775807
theorem slabNil_law (x y x0 y0 x1 y1 u : Int) (W : World) (_ : I64b x) (_ : I64b y) (_ : I64b x0) (_ : I64b y0) (_ : I64b x1) (_ : I64b y1) (_ : I64b u) : Calls Try.prog 7 #[.agg #[.int .i64 x, .int .i64 y], .agg #[.int .i64 x0, .int .i64 y0, .int .i64 x1, .int .i64 y1], .int .i64 u] W fun e w' => e = .returned (.bool true) ∧ Below W.heap.size W w' :=
  law_of (slabNil_walk x y x0 y0 x1 y1 u W)

end Go.Proofs.Ytkphmcaoioaglaa
