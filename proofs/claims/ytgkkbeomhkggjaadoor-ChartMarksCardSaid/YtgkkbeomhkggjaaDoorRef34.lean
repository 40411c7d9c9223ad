/- Layer 34: the document's runes. -/
import Derived.Test.YtgkkbeomhkggjaaDoorTint2
import Derived.Test.YtgkkbeomhkggjaaDoorPlain34b
set_option linter.unusedVariables false
set_option linter.unusedSimpArgs false
namespace Go.Proofs.YtgkkbeomhkggjaaDoor
open Go Go.RowKit
theorem kfref34_1 : (Tryd.prog.info? 9).map (fun i => (i.size, i.zero.map Value.cells)) = some (1, some (List.toArray [(.string .empty)])) := by kernel_rfl
theorem kfref34_2 : callB Tryd.prog 47 = true := by kernel_rfl
theorem kfref34_3 : (Tryd.prog.info? 9).map (fun i => (i.zero.map (·.cells.toList), i.size, i.bytes)) = some (some [(.string .empty)], 1, 16) := by kernel_rfl
theorem kfref34_4 : elB Tryd.prog 87 2 = true := by kernel_rfl
theorem kfref34_5 : fldB Tryd.prog 86 1 1 = true := by kernel_rfl
theorem kfref34_6 : oneB Tryd.prog 21 = true := by kernel_rfl
theorem kfref34_7 : callB Tryd.prog 24 = true := by kernel_rfl
theorem kfref34_8 : fldB Tryd.prog 86 0 0 = true := by kernel_rfl
theorem kfref34_9 : oneB Tryd.prog 2 = true := by kernel_rfl
/-- are a text's first bytes a rune's? -/
def okD (s : List Int) : Bool := decide (nth s 0 < 128 ∨ 1 < (runeD s).2)
theorem okD_yes {s : List Int} (h : nth s 0 < 128 ∨ 1 < (runeD s).2) : okD s = true := decide_eq_true h
theorem okD_no {s : List Int} (h : ¬ nth s 0 < 128) (h1 : (runeD s).2 = 1) : okD s = false := decide_eq_false (by omega)
theorem strs_push {a : List (List Int)} {x : List Int} : strs a ++ [.string (bs x)] = strs (a ++ [x]) := by simp [strs]

set_option maxRecDepth 100000 in
set_option maxHeartbeats 4000000 in
theorem refSize (s : List Int) (w : World) (hB : Byt s) (h0 : 0 < s.length) :
    Ret Tryd.prog 47 [.string (bs s)] w (fun v w' => v = .tuple #[.int .i64 ((runeD s).2 : Int), .bool (okD s)] ∧ Below w.heap.size w w') := by
 have b0 := hB _ (nth_mem h0)
 refine ret_enter Tryd.func47 rfl rfl rfl ?_
 have H0 := HS.start w
 refine cw_seq ?_
 refine cw_reg ?_
 refine ry (y_asg rfl rfl) rfl rfl ?_
 refine ry (y_asg rfl rfl) rfl rfl ?_
 refine reg_nil ?_
 refine fn_next ?_
 refine cw_seq ?_
 refine cw_reg ?_
 refine ry (y_mov rfl rfl) rfl rfl ?_
 refine ry (y_indexB (i := 0) rfl Tryd.underlying9 rfl rfl (rfl) (hB) (by omega)) rfl rfl ?_
 refine ry (y_asg rfl rfl) rfl rfl ?_
 refine reg_nil ?_
 refine fn_next ?_
 refine cw_seq ?_
 refine cw_seq ?_
 refine cw_reg ?_
 refine ry (y_mov rfl rfl) rfl rfl ?_
 refine ry (y_lss rfl rfl rfl) rfl rfl ?_
 refine reg_nil ?_
 refine fn_next ?_
 refine cw_condd rfl (fun h1 => ?_) (fun h1 => ?_)
 ·skip
  refine cw_seq ?_
  refine cw_reg ?_
  refine ry (y_asg rfl rfl) rfl rfl ?_
  refine ry (y_asg rfl rfl) rfl rfl ?_
  refine reg_nil ?_
  refine fn_next ?_
  refine cw_ret ?_
  refine fn_then_ret ?_
  refine fn_retn (vs := [_, _]) rfl ⟨rfl, rfl, trivial⟩ rfl ?_
  have e1 : (runeD s).2 = 1 := by unfold runeD; simp only; (repeat' split) <;> first | omega | (simp only; omega)
  exact ⟨by rw [e1, okD_yes (.inl (by omega))]; rfl, H0.base⟩
 ·skip
  refine cw_skip ?_
  refine fn_next ?_
  refine cw_seq ?_
  refine cw_reg ?_
  refine ry (y_asg rfl rfl) rfl rfl ?_
  refine ry (y_asg rfl rfl) rfl rfl ?_
  refine ry (y_asg rfl rfl) rfl rfl ?_
  refine reg_nil ?_
  refine fn_next ?_
  refine cw_seq ?_
  refine cw_seq ?_
  refine cw_reg ?_
  refine ry (y_mov rfl rfl) rfl rfl ?_
  refine ry (y_geq rfl rfl rfl) rfl rfl ?_
  refine ry (y_mov rfl rfl) rfl rfl ?_
  refine rg_splitd (d := 15) rfl (fun h2 => ?_) (fun h2 => ?_)
  ·skip
   refine rgy (y_mov rfl rfl) rfl rfl rfl rfl ?_
   refine rgy (y_lss rfl rfl rfl) rfl rfl rfl rfl ?_
   refine ry (y_pick rfl rfl rfl) rfl rfl ?_
   refine reg_nil ?_
   refine fn_next ?_
   refine cw_condd rfl (fun h3 => ?_) (fun h3 => ?_)
   ·skip
    refine cw_reg ?_
    refine ry (y_mov rfl rfl) rfl rfl ?_
    refine ry (y_conv rfl Tryd.underlying5 Tryd.underlying3 rfl (wi (by omega))) rfl rfl ?_
    refine ry (y_sub rfl rfl rfl (wi (by omega))) rfl rfl ?_
    refine ry (y_asg rfl rfl) rfl rfl ?_
    refine ry (y_asg rfl rfl) rfl rfl ?_
    refine ry (y_asg rfl rfl) rfl rfl ?_
    refine reg_nil ?_
    refine fn_next ?_
    refine cw_seq ?_
    refine cw_seq ?_
    refine cw_reg ?_
    refine ry (y_mov rfl rfl) rfl rfl ?_
    refine ry (y_eql rfl rfl rfl) rfl rfl ?_
    refine ry (y_mov rfl rfl) rfl rfl ?_
    refine rgy (y_mov rfl rfl) rfl rfl rfl rfl ?_
    refine rgy (y_mov rfl rfl) rfl rfl rfl rfl ?_
    refine rgy (y_lenB rfl Tryd.underlying9 rfl) rfl rfl rfl rfl ?_
    refine rgy (y_gtr rfl rfl rfl) rfl rfl rfl rfl ?_
    refine ry (y_pick rfl rfl rfl) rfl rfl ?_
    refine reg_nil ?_
    refine fn_next ?_
    refine cw_condd rfl (fun h4 => ?_) (fun h4 => ?_)
    ·skip
     refine cw_seq ?_
     refine cw_reg ?_
     refine ry (y_asg rfl rfl) rfl rfl ?_
     refine ry (y_asg rfl rfl) rfl rfl ?_
     refine reg_nil ?_
     refine fn_next ?_
     refine cw_ret ?_
     refine fn_then_ret ?_
     refine fn_retn (vs := [_, _]) rfl ⟨rfl, rfl, trivial⟩ rfl ?_
     have e1 : (runeD s).2 = 1 := by unfold runeD; simp only; (repeat' split) <;> first | omega | (simp only; omega)
     exact ⟨by rw [e1, okD_no (by omega) e1]; rfl, H0.base⟩
    ·skip
     refine cw_skip ?_
     refine fn_next ?_
     refine cw_seq ?_
     refine cw_seq ?_
     refine cw_reg ?_
     refine ry (y_asg rfl rfl) rfl rfl ?_
     refine reg_nil ?_
     refine fn_next ?_
     refine cw_block ?_
     refine cw_loopR 2 ?_
     have b1 := hB _ (nth_mem (show 1 < s.length by omega))
     refine cw_seq ?_
     refine cw_seq ?_
     refine cw_reg ?_
     refine ry (y_mov rfl rfl) rfl rfl ?_
     refine ry (y_mov rfl rfl) rfl rfl ?_
     refine ry (y_lss rfl rfl rfl) rfl rfl ?_
     refine reg_nil ?_
     refine fn_next ?_
     refine cw_condt rfl ?_
     refine cw_skip ?_
     refine fn_next ?_
     refine cw_seq ?_
     refine cw_block ?_
     refine cw_seq ?_
     refine cw_seq ?_
     refine cw_reg ?_
     refine ry (y_mov rfl rfl) rfl rfl ?_
     refine ry (y_mov rfl rfl) rfl rfl ?_
     refine ry (y_indexB (i := 1) rfl Tryd.underlying9 rfl rfl (rfl) (hB) (by omega)) rfl rfl ?_
     refine ry (y_lss rfl rfl rfl) rfl rfl ?_
     refine ry (y_mov rfl rfl) rfl rfl ?_
     refine rg_splitd (d := 57) rfl (fun h5 => ?_) (fun h5 => ?_)
     ·skip
      refine rg_off rfl rfl rfl rfl rfl ?_
      refine rg_off rfl rfl rfl rfl rfl ?_
      refine rg_off rfl rfl rfl rfl rfl ?_
      refine rg_off rfl rfl rfl rfl rfl ?_
      refine ry (y_pick rfl rfl rfl) rfl rfl ?_
      refine reg_nil ?_
      refine fn_next ?_
      refine cw_condt rfl ?_
      refine cw_seq ?_
      refine cw_reg ?_
      refine ry (y_asg rfl rfl) rfl rfl ?_
      refine ry (y_asg rfl rfl) rfl rfl ?_
      refine reg_nil ?_
      refine fn_next ?_
      refine cw_ret ?_
      refine fn_then_ret (fn_block_ret (fn_then_ret (fn_then_ret (fn_block_ret (fn_then_ret ?_)))))
      refine fn_retn (vs := [_, _]) rfl ⟨rfl, rfl, trivial⟩ rfl ?_
      have e1 : (runeD s).2 = 1 := by unfold runeD; simp only; (repeat' split) <;> first | omega | (simp only; omega)
      exact ⟨by rw [e1, okD_no (by omega) e1]; rfl, H0.base⟩
     ·skip
      refine rgy (y_mov rfl rfl) rfl rfl rfl rfl ?_
      refine rgy (y_mov rfl rfl) rfl rfl rfl rfl ?_
      refine rgy (y_indexB (i := 1) rfl Tryd.underlying9 rfl rfl (rfl) (hB) (by omega)) rfl rfl rfl rfl ?_
      refine rgy (y_gtr rfl rfl rfl) rfl rfl rfl rfl ?_
      refine ry (y_pick rfl rfl rfl) rfl rfl ?_
      refine reg_nil ?_
      refine fn_next ?_
      refine cw_condd rfl (fun h6 => ?_) (fun h6 => ?_)
      ·skip
       refine cw_seq ?_
       refine cw_reg ?_
       refine ry (y_asg rfl rfl) rfl rfl ?_
       refine ry (y_asg rfl rfl) rfl rfl ?_
       refine reg_nil ?_
       refine fn_next ?_
       refine cw_ret ?_
       refine fn_then_ret (fn_block_ret (fn_then_ret (fn_then_ret (fn_block_ret (fn_then_ret ?_)))))
       refine fn_retn (vs := [_, _]) rfl ⟨rfl, rfl, trivial⟩ rfl ?_
       have e1 : (runeD s).2 = 1 := by unfold runeD; simp only; (repeat' split) <;> first | omega | (simp only; omega)
       exact ⟨by rw [e1, okD_no (by omega) e1]; rfl, H0.base⟩
      ·skip
       refine cw_skip ?_
       refine fn_next ?_
       refine cw_reg ?_
       refine ry (y_mov rfl rfl) rfl rfl ?_
       refine ry (y_mul rfl rfl rfl (wi (by omega))) rfl rfl ?_
       refine ry (y_mov rfl rfl) rfl rfl ?_
       refine ry (y_mov rfl rfl) rfl rfl ?_
       refine ry (y_indexB (i := 1) rfl Tryd.underlying9 rfl rfl (rfl) (hB) (by omega)) rfl rfl ?_
       refine ry (y_conv rfl Tryd.underlying5 Tryd.underlying3 rfl (wi (by omega))) rfl rfl ?_
       refine ry (y_add rfl rfl rfl (wi (by omega))) rfl rfl ?_
       refine ry (y_sub rfl rfl rfl (wi (by omega))) rfl rfl ?_
       refine ry (y_asg rfl rfl) rfl rfl ?_
       refine reg_nil ?_
       refine fn_block ?_
       refine fn_next ?_
       refine cw_reg ?_
       refine ry (y_mov rfl rfl) rfl rfl ?_
       refine ry (y_add rfl rfl rfl (wi (by omega))) rfl rfl ?_
       refine ry (y_asg rfl rfl) rfl rfl ?_
       refine reg_nil ?_
       refine fn_roundR ?_
       refine cw_seq ?_
       refine cw_seq ?_
       refine cw_reg ?_
       refine ry (y_mov rfl rfl) rfl rfl ?_
       refine ry (y_mov rfl rfl) rfl rfl ?_
       refine ry (y_lss rfl rfl rfl) rfl rfl ?_
       refine reg_nil ?_
       refine fn_next ?_
       refine cw_condf rfl ?_
       refine cw_exit ?_
       refine fn_then_exit (fn_then_exit (fn_block_exit ?_))
       refine fn_next ?_
       refine cw_seq ?_
       refine cw_seq ?_
       refine cw_reg ?_
       refine ry (y_mov rfl rfl) rfl rfl ?_
       refine ry (y_mov rfl rfl) rfl rfl ?_
       refine ry (y_lss rfl rfl rfl) rfl rfl ?_
       refine ry (y_mov rfl rfl) rfl rfl ?_
       refine rg_splitd (d := 74) rfl (fun h7 => ?_) (fun h7 => ?_)
       ·skip
        refine rg_off rfl rfl rfl rfl rfl ?_
        refine rg_off rfl rfl rfl rfl rfl ?_
        refine ry (y_pick rfl rfl rfl) rfl rfl ?_
        refine ry (y_mov rfl rfl) rfl rfl ?_
        refine rg_off rfl rfl rfl rfl rfl ?_
        refine rg_off rfl rfl rfl rfl rfl ?_
        refine rg_off rfl rfl rfl rfl rfl ?_
        refine rg_offu rfl rfl rfl rfl ?_
        refine rg_offu rfl rfl rfl rfl ?_
        refine rg_off rfl rfl rfl rfl rfl ?_
        refine ry (y_pick rfl rfl rfl) rfl rfl ?_
        refine reg_nil ?_
        refine fn_next ?_
        refine cw_condt rfl ?_
        refine cw_seq ?_
        refine cw_reg ?_
        refine ry (y_asg rfl rfl) rfl rfl ?_
        refine ry (y_asg rfl rfl) rfl rfl ?_
        refine reg_nil ?_
        refine fn_next ?_
        refine cw_ret ?_
        refine fn_then_ret ?_
        refine fn_retn (vs := [_, _]) rfl ⟨rfl, rfl, trivial⟩ rfl ?_
        have e1 : (runeD s).2 = 1 := by unfold runeD; simp only; (repeat' split) <;> first | omega | (simp only; omega)
        exact ⟨by rw [e1, okD_no (by omega) e1]; rfl, H0.base⟩
       ·skip
        refine rgy (y_mov rfl rfl) rfl rfl rfl rfl ?_
        refine rgy (y_gtr rfl rfl rfl) rfl rfl rfl rfl ?_
        refine ry (y_pick rfl rfl rfl) rfl rfl ?_
        refine ry (y_mov rfl rfl) rfl rfl ?_
        refine rg_splitd (d := 78) rfl (fun h8 => ?_) (fun h8 => ?_)
        ·skip
         refine rg_off rfl rfl rfl rfl rfl ?_
         refine rg_off rfl rfl rfl rfl rfl ?_
         refine rg_off rfl rfl rfl rfl rfl ?_
         refine rg_offu rfl rfl rfl rfl ?_
         refine rg_offu rfl rfl rfl rfl ?_
         refine rg_off rfl rfl rfl rfl rfl ?_
         refine ry (y_pick rfl rfl rfl) rfl rfl ?_
         refine reg_nil ?_
         refine fn_next ?_
         refine cw_condt rfl ?_
         refine cw_seq ?_
         refine cw_reg ?_
         refine ry (y_asg rfl rfl) rfl rfl ?_
         refine ry (y_asg rfl rfl) rfl rfl ?_
         refine reg_nil ?_
         refine fn_next ?_
         refine cw_ret ?_
         refine fn_then_ret ?_
         refine fn_retn (vs := [_, _]) rfl ⟨rfl, rfl, trivial⟩ rfl ?_
         have e1 : (runeD s).2 = 1 := by unfold runeD; simp only; (repeat' split) <;> first | omega | (simp only; omega)
         exact ⟨by rw [e1, okD_no (by omega) e1]; rfl, H0.base⟩
        ·skip
         refine rgy (y_mov rfl rfl) rfl rfl rfl rfl ?_
         refine rgy (y_geq rfl rfl rfl) rfl rfl rfl rfl ?_
         refine rgy (y_mov rfl rfl) rfl rfl rfl rfl ?_
         refine rg_splitd (d := 81) rfl (fun h9 => ?_) (fun h9 => ?_)
         ·skip
          refine rgy (y_mov rfl rfl) rfl rfl rfl rfl ?_
          refine rgy (y_lss rfl rfl rfl) rfl rfl rfl rfl ?_
          refine rgy (y_pick rfl rfl rfl) rfl rfl rfl rfl ?_
          refine ry (y_pick rfl rfl rfl) rfl rfl ?_
          refine reg_nil ?_
          refine fn_next ?_
          refine cw_condd rfl (fun h10 => ?_) (fun h10 => ?_)
          ·skip
           refine cw_seq ?_
           refine cw_reg ?_
           refine ry (y_asg rfl rfl) rfl rfl ?_
           refine ry (y_asg rfl rfl) rfl rfl ?_
           refine reg_nil ?_
           refine fn_next ?_
           refine cw_ret ?_
           refine fn_then_ret ?_
           refine fn_retn (vs := [_, _]) rfl ⟨rfl, rfl, trivial⟩ rfl ?_
           have e1 : (runeD s).2 = 1 := by unfold runeD; simp only; (repeat' split) <;> first | omega | (simp only; omega)
           exact ⟨by rw [e1, okD_no (by omega) e1]; rfl, H0.base⟩
          ·skip
           refine cw_skip ?_
           refine fn_next ?_
           refine cw_seq ?_
           refine cw_reg ?_
           refine ry (y_mov rfl rfl) rfl rfl ?_
           refine ry (y_asg rfl rfl) rfl rfl ?_
           refine ry (y_asg rfl rfl) rfl rfl ?_
           refine reg_nil ?_
           refine fn_next ?_
           refine cw_ret ?_
           refine fn_retn (vs := [_, _]) rfl ⟨rfl, rfl, trivial⟩ rfl ?_
           have e1 : (runeD s).2 = 2 := by unfold runeD; simp only; (repeat' split) <;> first | omega | (simp only; omega)
           exact ⟨by rw [e1, okD_yes (.inr (by omega))]; rfl, H0.base⟩
         ·skip
          refine rg_off rfl rfl rfl rfl rfl ?_
          refine rg_off rfl rfl rfl rfl rfl ?_
          refine rgy (y_pick rfl rfl rfl) rfl rfl rfl rfl ?_
          refine ry (y_pick rfl rfl rfl) rfl rfl ?_
          refine reg_nil ?_
          refine fn_next ?_
          refine cw_condf rfl ?_
          refine cw_skip ?_
          refine fn_next ?_
          refine cw_seq ?_
          refine cw_reg ?_
          refine ry (y_mov rfl rfl) rfl rfl ?_
          refine ry (y_asg rfl rfl) rfl rfl ?_
          refine ry (y_asg rfl rfl) rfl rfl ?_
          refine reg_nil ?_
          refine fn_next ?_
          refine cw_ret ?_
          refine fn_retn (vs := [_, _]) rfl ⟨rfl, rfl, trivial⟩ rfl ?_
          have e1 : (runeD s).2 = 2 := by unfold runeD; simp only; (repeat' split) <;> first | omega | (simp only; omega)
          exact ⟨by rw [e1, okD_yes (.inr (by omega))]; rfl, H0.base⟩
   ·skip
    refine cw_seq ?_
    refine cw_reg ?_
    refine ry (y_mov rfl rfl) rfl rfl ?_
    refine ry (y_geq rfl rfl rfl) rfl rfl ?_
    refine ry (y_mov rfl rfl) rfl rfl ?_
    refine rg_splitd (d := 24) rfl (fun h11 => ?_) (fun h11 => ?_)
    ·skip
     refine rgy (y_mov rfl rfl) rfl rfl rfl rfl ?_
     refine rgy (y_lss rfl rfl rfl) rfl rfl rfl rfl ?_
     refine ry (y_pick rfl rfl rfl) rfl rfl ?_
     refine reg_nil ?_
     refine fn_next ?_
     refine cw_condd rfl (fun h12 => ?_) (fun h12 => ?_)
     ·skip
      refine cw_reg ?_
      refine ry (y_mov rfl rfl) rfl rfl ?_
      refine ry (y_conv rfl Tryd.underlying5 Tryd.underlying3 rfl (wi (by omega))) rfl rfl ?_
      refine ry (y_sub rfl rfl rfl (wi (by omega))) rfl rfl ?_
      refine ry (y_asg rfl rfl) rfl rfl ?_
      refine ry (y_asg rfl rfl) rfl rfl ?_
      refine ry (y_asg rfl rfl) rfl rfl ?_
      refine reg_nil ?_
      refine fn_next ?_
      refine cw_seq ?_
      refine cw_seq ?_
      refine cw_reg ?_
      refine ry (y_mov rfl rfl) rfl rfl ?_
      refine ry (y_eql rfl rfl rfl) rfl rfl ?_
      refine ry (y_mov rfl rfl) rfl rfl ?_
      refine rgy (y_mov rfl rfl) rfl rfl rfl rfl ?_
      refine rgy (y_mov rfl rfl) rfl rfl rfl rfl ?_
      refine rgy (y_lenB rfl Tryd.underlying9 rfl) rfl rfl rfl rfl ?_
      refine rgy (y_gtr rfl rfl rfl) rfl rfl rfl rfl ?_
      refine ry (y_pick rfl rfl rfl) rfl rfl ?_
      refine reg_nil ?_
      refine fn_next ?_
      refine cw_condd rfl (fun h13 => ?_) (fun h13 => ?_)
      ·skip
       refine cw_seq ?_
       refine cw_reg ?_
       refine ry (y_asg rfl rfl) rfl rfl ?_
       refine ry (y_asg rfl rfl) rfl rfl ?_
       refine reg_nil ?_
       refine fn_next ?_
       refine cw_ret ?_
       refine fn_then_ret ?_
       refine fn_retn (vs := [_, _]) rfl ⟨rfl, rfl, trivial⟩ rfl ?_
       have e1 : (runeD s).2 = 1 := by unfold runeD; simp only; (repeat' split) <;> first | omega | (simp only; omega)
       exact ⟨by rw [e1, okD_no (by omega) e1]; rfl, H0.base⟩
      ·skip
       refine cw_skip ?_
       refine fn_next ?_
       refine cw_seq ?_
       refine cw_seq ?_
       refine cw_reg ?_
       refine ry (y_asg rfl rfl) rfl rfl ?_
       refine reg_nil ?_
       refine fn_next ?_
       refine cw_block ?_
       refine cw_loopR 3 ?_
       have b1 := hB _ (nth_mem (show 1 < s.length by omega))
       refine cw_seq ?_
       refine cw_seq ?_
       refine cw_reg ?_
       refine ry (y_mov rfl rfl) rfl rfl ?_
       refine ry (y_mov rfl rfl) rfl rfl ?_
       refine ry (y_lss rfl rfl rfl) rfl rfl ?_
       refine reg_nil ?_
       refine fn_next ?_
       refine cw_condt rfl ?_
       refine cw_skip ?_
       refine fn_next ?_
       refine cw_seq ?_
       refine cw_block ?_
       refine cw_seq ?_
       refine cw_seq ?_
       refine cw_reg ?_
       refine ry (y_mov rfl rfl) rfl rfl ?_
       refine ry (y_mov rfl rfl) rfl rfl ?_
       refine ry (y_indexB (i := 1) rfl Tryd.underlying9 rfl rfl (rfl) (hB) (by omega)) rfl rfl ?_
       refine ry (y_lss rfl rfl rfl) rfl rfl ?_
       refine ry (y_mov rfl rfl) rfl rfl ?_
       refine rg_splitd (d := 57) rfl (fun h14 => ?_) (fun h14 => ?_)
       ·skip
        refine rg_off rfl rfl rfl rfl rfl ?_
        refine rg_off rfl rfl rfl rfl rfl ?_
        refine rg_off rfl rfl rfl rfl rfl ?_
        refine rg_off rfl rfl rfl rfl rfl ?_
        refine ry (y_pick rfl rfl rfl) rfl rfl ?_
        refine reg_nil ?_
        refine fn_next ?_
        refine cw_condt rfl ?_
        refine cw_seq ?_
        refine cw_reg ?_
        refine ry (y_asg rfl rfl) rfl rfl ?_
        refine ry (y_asg rfl rfl) rfl rfl ?_
        refine reg_nil ?_
        refine fn_next ?_
        refine cw_ret ?_
        refine fn_then_ret (fn_block_ret (fn_then_ret (fn_then_ret (fn_block_ret (fn_then_ret ?_)))))
        refine fn_retn (vs := [_, _]) rfl ⟨rfl, rfl, trivial⟩ rfl ?_
        have e1 : (runeD s).2 = 1 := by unfold runeD; simp only; (repeat' split) <;> first | omega | (simp only; omega)
        exact ⟨by rw [e1, okD_no (by omega) e1]; rfl, H0.base⟩
       ·skip
        refine rgy (y_mov rfl rfl) rfl rfl rfl rfl ?_
        refine rgy (y_mov rfl rfl) rfl rfl rfl rfl ?_
        refine rgy (y_indexB (i := 1) rfl Tryd.underlying9 rfl rfl (rfl) (hB) (by omega)) rfl rfl rfl rfl ?_
        refine rgy (y_gtr rfl rfl rfl) rfl rfl rfl rfl ?_
        refine ry (y_pick rfl rfl rfl) rfl rfl ?_
        refine reg_nil ?_
        refine fn_next ?_
        refine cw_condd rfl (fun h15 => ?_) (fun h15 => ?_)
        ·skip
         refine cw_seq ?_
         refine cw_reg ?_
         refine ry (y_asg rfl rfl) rfl rfl ?_
         refine ry (y_asg rfl rfl) rfl rfl ?_
         refine reg_nil ?_
         refine fn_next ?_
         refine cw_ret ?_
         refine fn_then_ret (fn_block_ret (fn_then_ret (fn_then_ret (fn_block_ret (fn_then_ret ?_)))))
         refine fn_retn (vs := [_, _]) rfl ⟨rfl, rfl, trivial⟩ rfl ?_
         have e1 : (runeD s).2 = 1 := by unfold runeD; simp only; (repeat' split) <;> first | omega | (simp only; omega)
         exact ⟨by rw [e1, okD_no (by omega) e1]; rfl, H0.base⟩
        ·skip
         refine cw_skip ?_
         refine fn_next ?_
         refine cw_reg ?_
         refine ry (y_mov rfl rfl) rfl rfl ?_
         refine ry (y_mul rfl rfl rfl (wi (by omega))) rfl rfl ?_
         refine ry (y_mov rfl rfl) rfl rfl ?_
         refine ry (y_mov rfl rfl) rfl rfl ?_
         refine ry (y_indexB (i := 1) rfl Tryd.underlying9 rfl rfl (rfl) (hB) (by omega)) rfl rfl ?_
         refine ry (y_conv rfl Tryd.underlying5 Tryd.underlying3 rfl (wi (by omega))) rfl rfl ?_
         refine ry (y_add rfl rfl rfl (wi (by omega))) rfl rfl ?_
         refine ry (y_sub rfl rfl rfl (wi (by omega))) rfl rfl ?_
         refine ry (y_asg rfl rfl) rfl rfl ?_
         refine reg_nil ?_
         refine fn_block ?_
         refine fn_next ?_
         refine cw_reg ?_
         refine ry (y_mov rfl rfl) rfl rfl ?_
         refine ry (y_add rfl rfl rfl (wi (by omega))) rfl rfl ?_
         refine ry (y_asg rfl rfl) rfl rfl ?_
         refine reg_nil ?_
         refine fn_roundR ?_
         have b2 := hB _ (nth_mem (show 2 < s.length by omega))
         refine cw_seq ?_
         refine cw_seq ?_
         refine cw_reg ?_
         refine ry (y_mov rfl rfl) rfl rfl ?_
         refine ry (y_mov rfl rfl) rfl rfl ?_
         refine ry (y_lss rfl rfl rfl) rfl rfl ?_
         refine reg_nil ?_
         refine fn_next ?_
         refine cw_condt rfl ?_
         refine cw_skip ?_
         refine fn_next ?_
         refine cw_seq ?_
         refine cw_block ?_
         refine cw_seq ?_
         refine cw_seq ?_
         refine cw_reg ?_
         refine ry (y_mov rfl rfl) rfl rfl ?_
         refine ry (y_mov rfl rfl) rfl rfl ?_
         refine ry (y_indexB (i := 2) rfl Tryd.underlying9 rfl rfl (rfl) (hB) (by omega)) rfl rfl ?_
         refine ry (y_lss rfl rfl rfl) rfl rfl ?_
         refine ry (y_mov rfl rfl) rfl rfl ?_
         refine rg_splitd (d := 57) rfl (fun h16 => ?_) (fun h16 => ?_)
         ·skip
          refine rg_off rfl rfl rfl rfl rfl ?_
          refine rg_off rfl rfl rfl rfl rfl ?_
          refine rg_off rfl rfl rfl rfl rfl ?_
          refine rg_off rfl rfl rfl rfl rfl ?_
          refine ry (y_pick rfl rfl rfl) rfl rfl ?_
          refine reg_nil ?_
          refine fn_next ?_
          refine cw_condt rfl ?_
          refine cw_seq ?_
          refine cw_reg ?_
          refine ry (y_asg rfl rfl) rfl rfl ?_
          refine ry (y_asg rfl rfl) rfl rfl ?_
          refine reg_nil ?_
          refine fn_next ?_
          refine cw_ret ?_
          refine fn_then_ret (fn_block_ret (fn_then_ret (fn_then_ret (fn_block_ret (fn_then_ret ?_)))))
          refine fn_retn (vs := [_, _]) rfl ⟨rfl, rfl, trivial⟩ rfl ?_
          have e1 : (runeD s).2 = 1 := by unfold runeD; simp only; (repeat' split) <;> first | omega | (simp only; omega)
          exact ⟨by rw [e1, okD_no (by omega) e1]; rfl, H0.base⟩
         ·skip
          refine rgy (y_mov rfl rfl) rfl rfl rfl rfl ?_
          refine rgy (y_mov rfl rfl) rfl rfl rfl rfl ?_
          refine rgy (y_indexB (i := 2) rfl Tryd.underlying9 rfl rfl (rfl) (hB) (by omega)) rfl rfl rfl rfl ?_
          refine rgy (y_gtr rfl rfl rfl) rfl rfl rfl rfl ?_
          refine ry (y_pick rfl rfl rfl) rfl rfl ?_
          refine reg_nil ?_
          refine fn_next ?_
          refine cw_condd rfl (fun h17 => ?_) (fun h17 => ?_)
          ·skip
           refine cw_seq ?_
           refine cw_reg ?_
           refine ry (y_asg rfl rfl) rfl rfl ?_
           refine ry (y_asg rfl rfl) rfl rfl ?_
           refine reg_nil ?_
           refine fn_next ?_
           refine cw_ret ?_
           refine fn_then_ret (fn_block_ret (fn_then_ret (fn_then_ret (fn_block_ret (fn_then_ret ?_)))))
           refine fn_retn (vs := [_, _]) rfl ⟨rfl, rfl, trivial⟩ rfl ?_
           have e1 : (runeD s).2 = 1 := by unfold runeD; simp only; (repeat' split) <;> first | omega | (simp only; omega)
           exact ⟨by rw [e1, okD_no (by omega) e1]; rfl, H0.base⟩
          ·skip
           refine cw_skip ?_
           refine fn_next ?_
           refine cw_reg ?_
           refine ry (y_mov rfl rfl) rfl rfl ?_
           refine ry (y_mul rfl rfl rfl (wi (by omega))) rfl rfl ?_
           refine ry (y_mov rfl rfl) rfl rfl ?_
           refine ry (y_mov rfl rfl) rfl rfl ?_
           refine ry (y_indexB (i := 2) rfl Tryd.underlying9 rfl rfl (rfl) (hB) (by omega)) rfl rfl ?_
           refine ry (y_conv rfl Tryd.underlying5 Tryd.underlying3 rfl (wi (by omega))) rfl rfl ?_
           refine ry (y_add rfl rfl rfl (wi (by omega))) rfl rfl ?_
           refine ry (y_sub rfl rfl rfl (wi (by omega))) rfl rfl ?_
           refine ry (y_asg rfl rfl) rfl rfl ?_
           refine reg_nil ?_
           refine fn_block ?_
           refine fn_next ?_
           refine cw_reg ?_
           refine ry (y_mov rfl rfl) rfl rfl ?_
           refine ry (y_add rfl rfl rfl (wi (by omega))) rfl rfl ?_
           refine ry (y_asg rfl rfl) rfl rfl ?_
           refine reg_nil ?_
           refine fn_roundR ?_
           refine cw_seq ?_
           refine cw_seq ?_
           refine cw_reg ?_
           refine ry (y_mov rfl rfl) rfl rfl ?_
           refine ry (y_mov rfl rfl) rfl rfl ?_
           refine ry (y_lss rfl rfl rfl) rfl rfl ?_
           refine reg_nil ?_
           refine fn_next ?_
           refine cw_condf rfl ?_
           refine cw_exit ?_
           refine fn_then_exit (fn_then_exit (fn_block_exit ?_))
           refine fn_next ?_
           refine cw_seq ?_
           refine cw_seq ?_
           refine cw_reg ?_
           refine ry (y_mov rfl rfl) rfl rfl ?_
           refine ry (y_mov rfl rfl) rfl rfl ?_
           refine ry (y_lss rfl rfl rfl) rfl rfl ?_
           refine ry (y_mov rfl rfl) rfl rfl ?_
           refine rg_splitd (d := 74) rfl (fun h18 => ?_) (fun h18 => ?_)
           ·skip
            refine rg_off rfl rfl rfl rfl rfl ?_
            refine rg_off rfl rfl rfl rfl rfl ?_
            refine ry (y_pick rfl rfl rfl) rfl rfl ?_
            refine ry (y_mov rfl rfl) rfl rfl ?_
            refine rg_off rfl rfl rfl rfl rfl ?_
            refine rg_off rfl rfl rfl rfl rfl ?_
            refine rg_off rfl rfl rfl rfl rfl ?_
            refine rg_offu rfl rfl rfl rfl ?_
            refine rg_offu rfl rfl rfl rfl ?_
            refine rg_off rfl rfl rfl rfl rfl ?_
            refine ry (y_pick rfl rfl rfl) rfl rfl ?_
            refine reg_nil ?_
            refine fn_next ?_
            refine cw_condt rfl ?_
            refine cw_seq ?_
            refine cw_reg ?_
            refine ry (y_asg rfl rfl) rfl rfl ?_
            refine ry (y_asg rfl rfl) rfl rfl ?_
            refine reg_nil ?_
            refine fn_next ?_
            refine cw_ret ?_
            refine fn_then_ret ?_
            refine fn_retn (vs := [_, _]) rfl ⟨rfl, rfl, trivial⟩ rfl ?_
            have e1 : (runeD s).2 = 1 := by unfold runeD; simp only; (repeat' split) <;> first | omega | (simp only; omega)
            exact ⟨by rw [e1, okD_no (by omega) e1]; rfl, H0.base⟩
           ·skip
            refine rgy (y_mov rfl rfl) rfl rfl rfl rfl ?_
            refine rgy (y_gtr rfl rfl rfl) rfl rfl rfl rfl ?_
            refine ry (y_pick rfl rfl rfl) rfl rfl ?_
            refine ry (y_mov rfl rfl) rfl rfl ?_
            refine rg_splitd (d := 78) rfl (fun h19 => ?_) (fun h19 => ?_)
            ·skip
             refine rg_off rfl rfl rfl rfl rfl ?_
             refine rg_off rfl rfl rfl rfl rfl ?_
             refine rg_off rfl rfl rfl rfl rfl ?_
             refine rg_offu rfl rfl rfl rfl ?_
             refine rg_offu rfl rfl rfl rfl ?_
             refine rg_off rfl rfl rfl rfl rfl ?_
             refine ry (y_pick rfl rfl rfl) rfl rfl ?_
             refine reg_nil ?_
             refine fn_next ?_
             refine cw_condt rfl ?_
             refine cw_seq ?_
             refine cw_reg ?_
             refine ry (y_asg rfl rfl) rfl rfl ?_
             refine ry (y_asg rfl rfl) rfl rfl ?_
             refine reg_nil ?_
             refine fn_next ?_
             refine cw_ret ?_
             refine fn_then_ret ?_
             refine fn_retn (vs := [_, _]) rfl ⟨rfl, rfl, trivial⟩ rfl ?_
             have e1 : (runeD s).2 = 1 := by unfold runeD; simp only; (repeat' split) <;> first | omega | (simp only; omega)
             exact ⟨by rw [e1, okD_no (by omega) e1]; rfl, H0.base⟩
            ·skip
             refine rgy (y_mov rfl rfl) rfl rfl rfl rfl ?_
             refine rgy (y_geq rfl rfl rfl) rfl rfl rfl rfl ?_
             refine rgy (y_mov rfl rfl) rfl rfl rfl rfl ?_
             refine rg_splitd (d := 81) rfl (fun h20 => ?_) (fun h20 => ?_)
             ·skip
              refine rgy (y_mov rfl rfl) rfl rfl rfl rfl ?_
              refine rgy (y_lss rfl rfl rfl) rfl rfl rfl rfl ?_
              refine rgy (y_pick rfl rfl rfl) rfl rfl rfl rfl ?_
              refine ry (y_pick rfl rfl rfl) rfl rfl ?_
              refine reg_nil ?_
              refine fn_next ?_
              refine cw_condd rfl (fun h21 => ?_) (fun h21 => ?_)
              ·skip
               refine cw_seq ?_
               refine cw_reg ?_
               refine ry (y_asg rfl rfl) rfl rfl ?_
               refine ry (y_asg rfl rfl) rfl rfl ?_
               refine reg_nil ?_
               refine fn_next ?_
               refine cw_ret ?_
               refine fn_then_ret ?_
               refine fn_retn (vs := [_, _]) rfl ⟨rfl, rfl, trivial⟩ rfl ?_
               have e1 : (runeD s).2 = 1 := by unfold runeD; simp only; (repeat' split) <;> first | omega | (simp only; omega)
               exact ⟨by rw [e1, okD_no (by omega) e1]; rfl, H0.base⟩
              ·skip
               refine cw_skip ?_
               refine fn_next ?_
               refine cw_seq ?_
               refine cw_reg ?_
               refine ry (y_mov rfl rfl) rfl rfl ?_
               refine ry (y_asg rfl rfl) rfl rfl ?_
               refine ry (y_asg rfl rfl) rfl rfl ?_
               refine reg_nil ?_
               refine fn_next ?_
               refine cw_ret ?_
               refine fn_retn (vs := [_, _]) rfl ⟨rfl, rfl, trivial⟩ rfl ?_
               have e1 : (runeD s).2 = 3 := by unfold runeD; simp only; (repeat' split) <;> first | omega | (simp only; omega)
               exact ⟨by rw [e1, okD_yes (.inr (by omega))]; rfl, H0.base⟩
             ·skip
              refine rg_off rfl rfl rfl rfl rfl ?_
              refine rg_off rfl rfl rfl rfl rfl ?_
              refine rgy (y_pick rfl rfl rfl) rfl rfl rfl rfl ?_
              refine ry (y_pick rfl rfl rfl) rfl rfl ?_
              refine reg_nil ?_
              refine fn_next ?_
              refine cw_condf rfl ?_
              refine cw_skip ?_
              refine fn_next ?_
              refine cw_seq ?_
              refine cw_reg ?_
              refine ry (y_mov rfl rfl) rfl rfl ?_
              refine ry (y_asg rfl rfl) rfl rfl ?_
              refine ry (y_asg rfl rfl) rfl rfl ?_
              refine reg_nil ?_
              refine fn_next ?_
              refine cw_ret ?_
              refine fn_retn (vs := [_, _]) rfl ⟨rfl, rfl, trivial⟩ rfl ?_
              have e1 : (runeD s).2 = 3 := by unfold runeD; simp only; (repeat' split) <;> first | omega | (simp only; omega)
              exact ⟨by rw [e1, okD_yes (.inr (by omega))]; rfl, H0.base⟩
     ·skip
      refine cw_seq ?_
      refine cw_reg ?_
      refine ry (y_mov rfl rfl) rfl rfl ?_
      refine ry (y_geq rfl rfl rfl) rfl rfl ?_
      refine ry (y_mov rfl rfl) rfl rfl ?_
      refine rg_splitd (d := 33) rfl (fun h22 => ?_) (fun h22 => ?_)
      ·skip
       refine rgy (y_mov rfl rfl) rfl rfl rfl rfl ?_
       refine rgy (y_lss rfl rfl rfl) rfl rfl rfl rfl ?_
       refine ry (y_pick rfl rfl rfl) rfl rfl ?_
       refine reg_nil ?_
       refine fn_next ?_
       refine cw_condd rfl (fun h23 => ?_) (fun h23 => ?_)
       ·skip
        refine cw_reg ?_
        refine ry (y_mov rfl rfl) rfl rfl ?_
        refine ry (y_conv rfl Tryd.underlying5 Tryd.underlying3 rfl (wi (by omega))) rfl rfl ?_
        refine ry (y_sub rfl rfl rfl (wi (by omega))) rfl rfl ?_
        refine ry (y_asg rfl rfl) rfl rfl ?_
        refine ry (y_asg rfl rfl) rfl rfl ?_
        refine ry (y_asg rfl rfl) rfl rfl ?_
        refine reg_nil ?_
        refine fn_next ?_
        refine cw_seq ?_
        refine cw_seq ?_
        refine cw_reg ?_
        refine ry (y_mov rfl rfl) rfl rfl ?_
        refine ry (y_eql rfl rfl rfl) rfl rfl ?_
        refine ry (y_mov rfl rfl) rfl rfl ?_
        refine rgy (y_mov rfl rfl) rfl rfl rfl rfl ?_
        refine rgy (y_mov rfl rfl) rfl rfl rfl rfl ?_
        refine rgy (y_lenB rfl Tryd.underlying9 rfl) rfl rfl rfl rfl ?_
        refine rgy (y_gtr rfl rfl rfl) rfl rfl rfl rfl ?_
        refine ry (y_pick rfl rfl rfl) rfl rfl ?_
        refine reg_nil ?_
        refine fn_next ?_
        refine cw_condd rfl (fun h24 => ?_) (fun h24 => ?_)
        ·skip
         refine cw_seq ?_
         refine cw_reg ?_
         refine ry (y_asg rfl rfl) rfl rfl ?_
         refine ry (y_asg rfl rfl) rfl rfl ?_
         refine reg_nil ?_
         refine fn_next ?_
         refine cw_ret ?_
         refine fn_then_ret ?_
         refine fn_retn (vs := [_, _]) rfl ⟨rfl, rfl, trivial⟩ rfl ?_
         have e1 : (runeD s).2 = 1 := by unfold runeD; simp only; (repeat' split) <;> first | omega | (simp only; omega)
         exact ⟨by rw [e1, okD_no (by omega) e1]; rfl, H0.base⟩
        ·skip
         refine cw_skip ?_
         refine fn_next ?_
         refine cw_seq ?_
         refine cw_seq ?_
         refine cw_reg ?_
         refine ry (y_asg rfl rfl) rfl rfl ?_
         refine reg_nil ?_
         refine fn_next ?_
         refine cw_block ?_
         refine cw_loopR 4 ?_
         have b1 := hB _ (nth_mem (show 1 < s.length by omega))
         refine cw_seq ?_
         refine cw_seq ?_
         refine cw_reg ?_
         refine ry (y_mov rfl rfl) rfl rfl ?_
         refine ry (y_mov rfl rfl) rfl rfl ?_
         refine ry (y_lss rfl rfl rfl) rfl rfl ?_
         refine reg_nil ?_
         refine fn_next ?_
         refine cw_condt rfl ?_
         refine cw_skip ?_
         refine fn_next ?_
         refine cw_seq ?_
         refine cw_block ?_
         refine cw_seq ?_
         refine cw_seq ?_
         refine cw_reg ?_
         refine ry (y_mov rfl rfl) rfl rfl ?_
         refine ry (y_mov rfl rfl) rfl rfl ?_
         refine ry (y_indexB (i := 1) rfl Tryd.underlying9 rfl rfl (rfl) (hB) (by omega)) rfl rfl ?_
         refine ry (y_lss rfl rfl rfl) rfl rfl ?_
         refine ry (y_mov rfl rfl) rfl rfl ?_
         refine rg_splitd (d := 57) rfl (fun h25 => ?_) (fun h25 => ?_)
         ·skip
          refine rg_off rfl rfl rfl rfl rfl ?_
          refine rg_off rfl rfl rfl rfl rfl ?_
          refine rg_off rfl rfl rfl rfl rfl ?_
          refine rg_off rfl rfl rfl rfl rfl ?_
          refine ry (y_pick rfl rfl rfl) rfl rfl ?_
          refine reg_nil ?_
          refine fn_next ?_
          refine cw_condt rfl ?_
          refine cw_seq ?_
          refine cw_reg ?_
          refine ry (y_asg rfl rfl) rfl rfl ?_
          refine ry (y_asg rfl rfl) rfl rfl ?_
          refine reg_nil ?_
          refine fn_next ?_
          refine cw_ret ?_
          refine fn_then_ret (fn_block_ret (fn_then_ret (fn_then_ret (fn_block_ret (fn_then_ret ?_)))))
          refine fn_retn (vs := [_, _]) rfl ⟨rfl, rfl, trivial⟩ rfl ?_
          have e1 : (runeD s).2 = 1 := by unfold runeD; simp only; (repeat' split) <;> first | omega | (simp only; omega)
          exact ⟨by rw [e1, okD_no (by omega) e1]; rfl, H0.base⟩
         ·skip
          refine rgy (y_mov rfl rfl) rfl rfl rfl rfl ?_
          refine rgy (y_mov rfl rfl) rfl rfl rfl rfl ?_
          refine rgy (y_indexB (i := 1) rfl Tryd.underlying9 rfl rfl (rfl) (hB) (by omega)) rfl rfl rfl rfl ?_
          refine rgy (y_gtr rfl rfl rfl) rfl rfl rfl rfl ?_
          refine ry (y_pick rfl rfl rfl) rfl rfl ?_
          refine reg_nil ?_
          refine fn_next ?_
          refine cw_condd rfl (fun h26 => ?_) (fun h26 => ?_)
          ·skip
           refine cw_seq ?_
           refine cw_reg ?_
           refine ry (y_asg rfl rfl) rfl rfl ?_
           refine ry (y_asg rfl rfl) rfl rfl ?_
           refine reg_nil ?_
           refine fn_next ?_
           refine cw_ret ?_
           refine fn_then_ret (fn_block_ret (fn_then_ret (fn_then_ret (fn_block_ret (fn_then_ret ?_)))))
           refine fn_retn (vs := [_, _]) rfl ⟨rfl, rfl, trivial⟩ rfl ?_
           have e1 : (runeD s).2 = 1 := by unfold runeD; simp only; (repeat' split) <;> first | omega | (simp only; omega)
           exact ⟨by rw [e1, okD_no (by omega) e1]; rfl, H0.base⟩
          ·skip
           refine cw_skip ?_
           refine fn_next ?_
           refine cw_reg ?_
           refine ry (y_mov rfl rfl) rfl rfl ?_
           refine ry (y_mul rfl rfl rfl (wi (by omega))) rfl rfl ?_
           refine ry (y_mov rfl rfl) rfl rfl ?_
           refine ry (y_mov rfl rfl) rfl rfl ?_
           refine ry (y_indexB (i := 1) rfl Tryd.underlying9 rfl rfl (rfl) (hB) (by omega)) rfl rfl ?_
           refine ry (y_conv rfl Tryd.underlying5 Tryd.underlying3 rfl (wi (by omega))) rfl rfl ?_
           refine ry (y_add rfl rfl rfl (wi (by omega))) rfl rfl ?_
           refine ry (y_sub rfl rfl rfl (wi (by omega))) rfl rfl ?_
           refine ry (y_asg rfl rfl) rfl rfl ?_
           refine reg_nil ?_
           refine fn_block ?_
           refine fn_next ?_
           refine cw_reg ?_
           refine ry (y_mov rfl rfl) rfl rfl ?_
           refine ry (y_add rfl rfl rfl (wi (by omega))) rfl rfl ?_
           refine ry (y_asg rfl rfl) rfl rfl ?_
           refine reg_nil ?_
           refine fn_roundR ?_
           have b2 := hB _ (nth_mem (show 2 < s.length by omega))
           refine cw_seq ?_
           refine cw_seq ?_
           refine cw_reg ?_
           refine ry (y_mov rfl rfl) rfl rfl ?_
           refine ry (y_mov rfl rfl) rfl rfl ?_
           refine ry (y_lss rfl rfl rfl) rfl rfl ?_
           refine reg_nil ?_
           refine fn_next ?_
           refine cw_condt rfl ?_
           refine cw_skip ?_
           refine fn_next ?_
           refine cw_seq ?_
           refine cw_block ?_
           refine cw_seq ?_
           refine cw_seq ?_
           refine cw_reg ?_
           refine ry (y_mov rfl rfl) rfl rfl ?_
           refine ry (y_mov rfl rfl) rfl rfl ?_
           refine ry (y_indexB (i := 2) rfl Tryd.underlying9 rfl rfl (rfl) (hB) (by omega)) rfl rfl ?_
           refine ry (y_lss rfl rfl rfl) rfl rfl ?_
           refine ry (y_mov rfl rfl) rfl rfl ?_
           refine rg_splitd (d := 57) rfl (fun h27 => ?_) (fun h27 => ?_)
           ·skip
            refine rg_off rfl rfl rfl rfl rfl ?_
            refine rg_off rfl rfl rfl rfl rfl ?_
            refine rg_off rfl rfl rfl rfl rfl ?_
            refine rg_off rfl rfl rfl rfl rfl ?_
            refine ry (y_pick rfl rfl rfl) rfl rfl ?_
            refine reg_nil ?_
            refine fn_next ?_
            refine cw_condt rfl ?_
            refine cw_seq ?_
            refine cw_reg ?_
            refine ry (y_asg rfl rfl) rfl rfl ?_
            refine ry (y_asg rfl rfl) rfl rfl ?_
            refine reg_nil ?_
            refine fn_next ?_
            refine cw_ret ?_
            refine fn_then_ret (fn_block_ret (fn_then_ret (fn_then_ret (fn_block_ret (fn_then_ret ?_)))))
            refine fn_retn (vs := [_, _]) rfl ⟨rfl, rfl, trivial⟩ rfl ?_
            have e1 : (runeD s).2 = 1 := by unfold runeD; simp only; (repeat' split) <;> first | omega | (simp only; omega)
            exact ⟨by rw [e1, okD_no (by omega) e1]; rfl, H0.base⟩
           ·skip
            refine rgy (y_mov rfl rfl) rfl rfl rfl rfl ?_
            refine rgy (y_mov rfl rfl) rfl rfl rfl rfl ?_
            refine rgy (y_indexB (i := 2) rfl Tryd.underlying9 rfl rfl (rfl) (hB) (by omega)) rfl rfl rfl rfl ?_
            refine rgy (y_gtr rfl rfl rfl) rfl rfl rfl rfl ?_
            refine ry (y_pick rfl rfl rfl) rfl rfl ?_
            refine reg_nil ?_
            refine fn_next ?_
            refine cw_condd rfl (fun h28 => ?_) (fun h28 => ?_)
            ·skip
             refine cw_seq ?_
             refine cw_reg ?_
             refine ry (y_asg rfl rfl) rfl rfl ?_
             refine ry (y_asg rfl rfl) rfl rfl ?_
             refine reg_nil ?_
             refine fn_next ?_
             refine cw_ret ?_
             refine fn_then_ret (fn_block_ret (fn_then_ret (fn_then_ret (fn_block_ret (fn_then_ret ?_)))))
             refine fn_retn (vs := [_, _]) rfl ⟨rfl, rfl, trivial⟩ rfl ?_
             have e1 : (runeD s).2 = 1 := by unfold runeD; simp only; (repeat' split) <;> first | omega | (simp only; omega)
             exact ⟨by rw [e1, okD_no (by omega) e1]; rfl, H0.base⟩
            ·skip
             refine cw_skip ?_
             refine fn_next ?_
             refine cw_reg ?_
             refine ry (y_mov rfl rfl) rfl rfl ?_
             refine ry (y_mul rfl rfl rfl (wi (by omega))) rfl rfl ?_
             refine ry (y_mov rfl rfl) rfl rfl ?_
             refine ry (y_mov rfl rfl) rfl rfl ?_
             refine ry (y_indexB (i := 2) rfl Tryd.underlying9 rfl rfl (rfl) (hB) (by omega)) rfl rfl ?_
             refine ry (y_conv rfl Tryd.underlying5 Tryd.underlying3 rfl (wi (by omega))) rfl rfl ?_
             refine ry (y_add rfl rfl rfl (wi (by omega))) rfl rfl ?_
             refine ry (y_sub rfl rfl rfl (wi (by omega))) rfl rfl ?_
             refine ry (y_asg rfl rfl) rfl rfl ?_
             refine reg_nil ?_
             refine fn_block ?_
             refine fn_next ?_
             refine cw_reg ?_
             refine ry (y_mov rfl rfl) rfl rfl ?_
             refine ry (y_add rfl rfl rfl (wi (by omega))) rfl rfl ?_
             refine ry (y_asg rfl rfl) rfl rfl ?_
             refine reg_nil ?_
             refine fn_roundR ?_
             have b3 := hB _ (nth_mem (show 3 < s.length by omega))
             refine cw_seq ?_
             refine cw_seq ?_
             refine cw_reg ?_
             refine ry (y_mov rfl rfl) rfl rfl ?_
             refine ry (y_mov rfl rfl) rfl rfl ?_
             refine ry (y_lss rfl rfl rfl) rfl rfl ?_
             refine reg_nil ?_
             refine fn_next ?_
             refine cw_condt rfl ?_
             refine cw_skip ?_
             refine fn_next ?_
             refine cw_seq ?_
             refine cw_block ?_
             refine cw_seq ?_
             refine cw_seq ?_
             refine cw_reg ?_
             refine ry (y_mov rfl rfl) rfl rfl ?_
             refine ry (y_mov rfl rfl) rfl rfl ?_
             refine ry (y_indexB (i := 3) rfl Tryd.underlying9 rfl rfl (rfl) (hB) (by omega)) rfl rfl ?_
             refine ry (y_lss rfl rfl rfl) rfl rfl ?_
             refine ry (y_mov rfl rfl) rfl rfl ?_
             refine rg_splitd (d := 57) rfl (fun h29 => ?_) (fun h29 => ?_)
             ·skip
              refine rg_off rfl rfl rfl rfl rfl ?_
              refine rg_off rfl rfl rfl rfl rfl ?_
              refine rg_off rfl rfl rfl rfl rfl ?_
              refine rg_off rfl rfl rfl rfl rfl ?_
              refine ry (y_pick rfl rfl rfl) rfl rfl ?_
              refine reg_nil ?_
              refine fn_next ?_
              refine cw_condt rfl ?_
              refine cw_seq ?_
              refine cw_reg ?_
              refine ry (y_asg rfl rfl) rfl rfl ?_
              refine ry (y_asg rfl rfl) rfl rfl ?_
              refine reg_nil ?_
              refine fn_next ?_
              refine cw_ret ?_
              refine fn_then_ret (fn_block_ret (fn_then_ret (fn_then_ret (fn_block_ret (fn_then_ret ?_)))))
              refine fn_retn (vs := [_, _]) rfl ⟨rfl, rfl, trivial⟩ rfl ?_
              have e1 : (runeD s).2 = 1 := by unfold runeD; simp only; (repeat' split) <;> first | omega | (simp only; omega)
              exact ⟨by rw [e1, okD_no (by omega) e1]; rfl, H0.base⟩
             ·skip
              refine rgy (y_mov rfl rfl) rfl rfl rfl rfl ?_
              refine rgy (y_mov rfl rfl) rfl rfl rfl rfl ?_
              refine rgy (y_indexB (i := 3) rfl Tryd.underlying9 rfl rfl (rfl) (hB) (by omega)) rfl rfl rfl rfl ?_
              refine rgy (y_gtr rfl rfl rfl) rfl rfl rfl rfl ?_
              refine ry (y_pick rfl rfl rfl) rfl rfl ?_
              refine reg_nil ?_
              refine fn_next ?_
              refine cw_condd rfl (fun h30 => ?_) (fun h30 => ?_)
              ·skip
               refine cw_seq ?_
               refine cw_reg ?_
               refine ry (y_asg rfl rfl) rfl rfl ?_
               refine ry (y_asg rfl rfl) rfl rfl ?_
               refine reg_nil ?_
               refine fn_next ?_
               refine cw_ret ?_
               refine fn_then_ret (fn_block_ret (fn_then_ret (fn_then_ret (fn_block_ret (fn_then_ret ?_)))))
               refine fn_retn (vs := [_, _]) rfl ⟨rfl, rfl, trivial⟩ rfl ?_
               have e1 : (runeD s).2 = 1 := by unfold runeD; simp only; (repeat' split) <;> first | omega | (simp only; omega)
               exact ⟨by rw [e1, okD_no (by omega) e1]; rfl, H0.base⟩
              ·skip
               refine cw_skip ?_
               refine fn_next ?_
               refine cw_reg ?_
               refine ry (y_mov rfl rfl) rfl rfl ?_
               refine ry (y_mul rfl rfl rfl (wi (by omega))) rfl rfl ?_
               refine ry (y_mov rfl rfl) rfl rfl ?_
               refine ry (y_mov rfl rfl) rfl rfl ?_
               refine ry (y_indexB (i := 3) rfl Tryd.underlying9 rfl rfl (rfl) (hB) (by omega)) rfl rfl ?_
               refine ry (y_conv rfl Tryd.underlying5 Tryd.underlying3 rfl (wi (by omega))) rfl rfl ?_
               refine ry (y_add rfl rfl rfl (wi (by omega))) rfl rfl ?_
               refine ry (y_sub rfl rfl rfl (wi (by omega))) rfl rfl ?_
               refine ry (y_asg rfl rfl) rfl rfl ?_
               refine reg_nil ?_
               refine fn_block ?_
               refine fn_next ?_
               refine cw_reg ?_
               refine ry (y_mov rfl rfl) rfl rfl ?_
               refine ry (y_add rfl rfl rfl (wi (by omega))) rfl rfl ?_
               refine ry (y_asg rfl rfl) rfl rfl ?_
               refine reg_nil ?_
               refine fn_roundR ?_
               refine cw_seq ?_
               refine cw_seq ?_
               refine cw_reg ?_
               refine ry (y_mov rfl rfl) rfl rfl ?_
               refine ry (y_mov rfl rfl) rfl rfl ?_
               refine ry (y_lss rfl rfl rfl) rfl rfl ?_
               refine reg_nil ?_
               refine fn_next ?_
               refine cw_condf rfl ?_
               refine cw_exit ?_
               refine fn_then_exit (fn_then_exit (fn_block_exit ?_))
               refine fn_next ?_
               refine cw_seq ?_
               refine cw_seq ?_
               refine cw_reg ?_
               refine ry (y_mov rfl rfl) rfl rfl ?_
               refine ry (y_mov rfl rfl) rfl rfl ?_
               refine ry (y_lss rfl rfl rfl) rfl rfl ?_
               refine ry (y_mov rfl rfl) rfl rfl ?_
               refine rg_splitd (d := 74) rfl (fun h31 => ?_) (fun h31 => ?_)
               ·skip
                refine rg_off rfl rfl rfl rfl rfl ?_
                refine rg_off rfl rfl rfl rfl rfl ?_
                refine ry (y_pick rfl rfl rfl) rfl rfl ?_
                refine ry (y_mov rfl rfl) rfl rfl ?_
                refine rg_off rfl rfl rfl rfl rfl ?_
                refine rg_off rfl rfl rfl rfl rfl ?_
                refine rg_off rfl rfl rfl rfl rfl ?_
                refine rg_offu rfl rfl rfl rfl ?_
                refine rg_offu rfl rfl rfl rfl ?_
                refine rg_off rfl rfl rfl rfl rfl ?_
                refine ry (y_pick rfl rfl rfl) rfl rfl ?_
                refine reg_nil ?_
                refine fn_next ?_
                refine cw_condt rfl ?_
                refine cw_seq ?_
                refine cw_reg ?_
                refine ry (y_asg rfl rfl) rfl rfl ?_
                refine ry (y_asg rfl rfl) rfl rfl ?_
                refine reg_nil ?_
                refine fn_next ?_
                refine cw_ret ?_
                refine fn_then_ret ?_
                refine fn_retn (vs := [_, _]) rfl ⟨rfl, rfl, trivial⟩ rfl ?_
                have e1 : (runeD s).2 = 1 := by unfold runeD; simp only; (repeat' split) <;> first | omega | (simp only; omega)
                exact ⟨by rw [e1, okD_no (by omega) e1]; rfl, H0.base⟩
               ·skip
                refine rgy (y_mov rfl rfl) rfl rfl rfl rfl ?_
                refine rgy (y_gtr rfl rfl rfl) rfl rfl rfl rfl ?_
                refine ry (y_pick rfl rfl rfl) rfl rfl ?_
                refine ry (y_mov rfl rfl) rfl rfl ?_
                refine rg_splitd (d := 78) rfl (fun h32 => ?_) (fun h32 => ?_)
                ·skip
                 refine rg_off rfl rfl rfl rfl rfl ?_
                 refine rg_off rfl rfl rfl rfl rfl ?_
                 refine rg_off rfl rfl rfl rfl rfl ?_
                 refine rg_offu rfl rfl rfl rfl ?_
                 refine rg_offu rfl rfl rfl rfl ?_
                 refine rg_off rfl rfl rfl rfl rfl ?_
                 refine ry (y_pick rfl rfl rfl) rfl rfl ?_
                 refine reg_nil ?_
                 refine fn_next ?_
                 refine cw_condt rfl ?_
                 refine cw_seq ?_
                 refine cw_reg ?_
                 refine ry (y_asg rfl rfl) rfl rfl ?_
                 refine ry (y_asg rfl rfl) rfl rfl ?_
                 refine reg_nil ?_
                 refine fn_next ?_
                 refine cw_ret ?_
                 refine fn_then_ret ?_
                 refine fn_retn (vs := [_, _]) rfl ⟨rfl, rfl, trivial⟩ rfl ?_
                 have e1 : (runeD s).2 = 1 := by unfold runeD; simp only; (repeat' split) <;> first | omega | (simp only; omega)
                 exact ⟨by rw [e1, okD_no (by omega) e1]; rfl, H0.base⟩
                ·skip
                 refine rgy (y_mov rfl rfl) rfl rfl rfl rfl ?_
                 refine rgy (y_geq rfl rfl rfl) rfl rfl rfl rfl ?_
                 refine rgy (y_mov rfl rfl) rfl rfl rfl rfl ?_
                 refine rg_splitd (d := 81) rfl (fun h33 => ?_) (fun h33 => ?_)
                 ·skip
                  refine rgy (y_mov rfl rfl) rfl rfl rfl rfl ?_
                  refine rgy (y_lss rfl rfl rfl) rfl rfl rfl rfl ?_
                  refine rgy (y_pick rfl rfl rfl) rfl rfl rfl rfl ?_
                  refine ry (y_pick rfl rfl rfl) rfl rfl ?_
                  refine reg_nil ?_
                  refine fn_next ?_
                  refine cw_condd rfl (fun h34 => ?_) (fun h34 => ?_)
                  ·skip
                   refine cw_seq ?_
                   refine cw_reg ?_
                   refine ry (y_asg rfl rfl) rfl rfl ?_
                   refine ry (y_asg rfl rfl) rfl rfl ?_
                   refine reg_nil ?_
                   refine fn_next ?_
                   refine cw_ret ?_
                   refine fn_then_ret ?_
                   refine fn_retn (vs := [_, _]) rfl ⟨rfl, rfl, trivial⟩ rfl ?_
                   have e1 : (runeD s).2 = 1 := by unfold runeD; simp only; (repeat' split) <;> first | omega | (simp only; omega)
                   exact ⟨by rw [e1, okD_no (by omega) e1]; rfl, H0.base⟩
                  ·skip
                   refine cw_skip ?_
                   refine fn_next ?_
                   refine cw_seq ?_
                   refine cw_reg ?_
                   refine ry (y_mov rfl rfl) rfl rfl ?_
                   refine ry (y_asg rfl rfl) rfl rfl ?_
                   refine ry (y_asg rfl rfl) rfl rfl ?_
                   refine reg_nil ?_
                   refine fn_next ?_
                   refine cw_ret ?_
                   refine fn_retn (vs := [_, _]) rfl ⟨rfl, rfl, trivial⟩ rfl ?_
                   have e1 : (runeD s).2 = 4 := by unfold runeD; simp only; (repeat' split) <;> first | omega | (simp only; omega)
                   exact ⟨by rw [e1, okD_yes (.inr (by omega))]; rfl, H0.base⟩
                 ·skip
                  refine rg_off rfl rfl rfl rfl rfl ?_
                  refine rg_off rfl rfl rfl rfl rfl ?_
                  refine rgy (y_pick rfl rfl rfl) rfl rfl rfl rfl ?_
                  refine ry (y_pick rfl rfl rfl) rfl rfl ?_
                  refine reg_nil ?_
                  refine fn_next ?_
                  refine cw_condf rfl ?_
                  refine cw_skip ?_
                  refine fn_next ?_
                  refine cw_seq ?_
                  refine cw_reg ?_
                  refine ry (y_mov rfl rfl) rfl rfl ?_
                  refine ry (y_asg rfl rfl) rfl rfl ?_
                  refine ry (y_asg rfl rfl) rfl rfl ?_
                  refine reg_nil ?_
                  refine fn_next ?_
                  refine cw_ret ?_
                  refine fn_retn (vs := [_, _]) rfl ⟨rfl, rfl, trivial⟩ rfl ?_
                  have e1 : (runeD s).2 = 4 := by unfold runeD; simp only; (repeat' split) <;> first | omega | (simp only; omega)
                  exact ⟨by rw [e1, okD_yes (.inr (by omega))]; rfl, H0.base⟩
       ·skip
        refine cw_skip ?_
        refine fn_next ?_
        refine cw_seq ?_
        refine cw_seq ?_
        refine cw_reg ?_
        refine ry (y_mov rfl rfl) rfl rfl ?_
        refine ry (y_eql rfl rfl rfl) rfl rfl ?_
        refine ry (y_mov rfl rfl) rfl rfl ?_
        refine rg_off rfl rfl rfl rfl rfl ?_
        refine rg_off rfl rfl rfl rfl rfl ?_
        refine rg_off rfl rfl rfl rfl rfl ?_
        refine rg_off rfl rfl rfl rfl rfl ?_
        refine ry (y_pick rfl rfl rfl) rfl rfl ?_
        refine reg_nil ?_
        refine fn_next ?_
        refine cw_condt rfl ?_
        refine cw_seq ?_
        refine cw_reg ?_
        refine ry (y_asg rfl rfl) rfl rfl ?_
        refine ry (y_asg rfl rfl) rfl rfl ?_
        refine reg_nil ?_
        refine fn_next ?_
        refine cw_ret ?_
        refine fn_then_ret ?_
        refine fn_retn (vs := [_, _]) rfl ⟨rfl, rfl, trivial⟩ rfl ?_
        have e1 : (runeD s).2 = 1 := by unfold runeD; simp only; (repeat' split) <;> first | omega | (simp only; omega)
        exact ⟨by rw [e1, okD_no (by omega) e1]; rfl, H0.base⟩
      ·skip
       refine rg_off rfl rfl rfl rfl rfl ?_
       refine rg_off rfl rfl rfl rfl rfl ?_
       refine ry (y_pick rfl rfl rfl) rfl rfl ?_
       refine reg_nil ?_
       refine fn_next ?_
       refine cw_condf rfl ?_
       refine cw_skip ?_
       refine fn_next ?_
       refine cw_seq ?_
       refine cw_seq ?_
       refine cw_reg ?_
       refine ry (y_mov rfl rfl) rfl rfl ?_
       refine ry (y_eql rfl rfl rfl) rfl rfl ?_
       refine ry (y_mov rfl rfl) rfl rfl ?_
       refine rg_off rfl rfl rfl rfl rfl ?_
       refine rg_off rfl rfl rfl rfl rfl ?_
       refine rg_off rfl rfl rfl rfl rfl ?_
       refine rg_off rfl rfl rfl rfl rfl ?_
       refine ry (y_pick rfl rfl rfl) rfl rfl ?_
       refine reg_nil ?_
       refine fn_next ?_
       refine cw_condt rfl ?_
       refine cw_seq ?_
       refine cw_reg ?_
       refine ry (y_asg rfl rfl) rfl rfl ?_
       refine ry (y_asg rfl rfl) rfl rfl ?_
       refine reg_nil ?_
       refine fn_next ?_
       refine cw_ret ?_
       refine fn_then_ret ?_
       refine fn_retn (vs := [_, _]) rfl ⟨rfl, rfl, trivial⟩ rfl ?_
       have e1 : (runeD s).2 = 1 := by unfold runeD; simp only; (repeat' split) <;> first | omega | (simp only; omega)
       exact ⟨by rw [e1, okD_no (by omega) e1]; rfl, H0.base⟩
    ·skip
     refine rg_off rfl rfl rfl rfl rfl ?_
     refine rg_off rfl rfl rfl rfl rfl ?_
     refine ry (y_pick rfl rfl rfl) rfl rfl ?_
     refine reg_nil ?_
     refine fn_next ?_
     refine cw_condf rfl ?_
     refine cw_seq ?_
     refine cw_reg ?_
     refine ry (y_mov rfl rfl) rfl rfl ?_
     refine ry (y_geq rfl rfl rfl) rfl rfl ?_
     refine ry (y_mov rfl rfl) rfl rfl ?_
     refine rg_splitd (d := 33) rfl (fun h35 => ?_) (fun h35 => ?_)
     ·skip
      refine rgy (y_mov rfl rfl) rfl rfl rfl rfl ?_
      refine rgy (y_lss rfl rfl rfl) rfl rfl rfl rfl ?_
      refine ry (y_pick rfl rfl rfl) rfl rfl ?_
      refine reg_nil ?_
      refine fn_next ?_
      refine cw_condd rfl (fun h36 => ?_) (fun h36 => ?_)
      ·skip
       refine cw_reg ?_
       refine ry (y_mov rfl rfl) rfl rfl ?_
       refine ry (y_conv rfl Tryd.underlying5 Tryd.underlying3 rfl (wi (by omega))) rfl rfl ?_
       refine ry (y_sub rfl rfl rfl (wi (by omega))) rfl rfl ?_
       refine ry (y_asg rfl rfl) rfl rfl ?_
       refine ry (y_asg rfl rfl) rfl rfl ?_
       refine ry (y_asg rfl rfl) rfl rfl ?_
       refine reg_nil ?_
       refine fn_next ?_
       refine cw_seq ?_
       refine cw_seq ?_
       refine cw_reg ?_
       refine ry (y_mov rfl rfl) rfl rfl ?_
       refine ry (y_eql rfl rfl rfl) rfl rfl ?_
       refine ry (y_mov rfl rfl) rfl rfl ?_
       refine rgy (y_mov rfl rfl) rfl rfl rfl rfl ?_
       refine rgy (y_mov rfl rfl) rfl rfl rfl rfl ?_
       refine rgy (y_lenB rfl Tryd.underlying9 rfl) rfl rfl rfl rfl ?_
       refine rgy (y_gtr rfl rfl rfl) rfl rfl rfl rfl ?_
       refine ry (y_pick rfl rfl rfl) rfl rfl ?_
       refine reg_nil ?_
       refine fn_next ?_
       refine cw_condd rfl (fun h37 => ?_) (fun h37 => ?_)
       ·skip
        refine cw_seq ?_
        refine cw_reg ?_
        refine ry (y_asg rfl rfl) rfl rfl ?_
        refine ry (y_asg rfl rfl) rfl rfl ?_
        refine reg_nil ?_
        refine fn_next ?_
        refine cw_ret ?_
        refine fn_then_ret ?_
        refine fn_retn (vs := [_, _]) rfl ⟨rfl, rfl, trivial⟩ rfl ?_
        have e1 : (runeD s).2 = 1 := by unfold runeD; simp only; (repeat' split) <;> first | omega | (simp only; omega)
        exact ⟨by rw [e1, okD_no (by omega) e1]; rfl, H0.base⟩
       ·skip
        refine cw_skip ?_
        refine fn_next ?_
        refine cw_seq ?_
        refine cw_seq ?_
        refine cw_reg ?_
        refine ry (y_asg rfl rfl) rfl rfl ?_
        refine reg_nil ?_
        refine fn_next ?_
        refine cw_block ?_
        refine cw_loopR 4 ?_
        have b1 := hB _ (nth_mem (show 1 < s.length by omega))
        refine cw_seq ?_
        refine cw_seq ?_
        refine cw_reg ?_
        refine ry (y_mov rfl rfl) rfl rfl ?_
        refine ry (y_mov rfl rfl) rfl rfl ?_
        refine ry (y_lss rfl rfl rfl) rfl rfl ?_
        refine reg_nil ?_
        refine fn_next ?_
        refine cw_condt rfl ?_
        refine cw_skip ?_
        refine fn_next ?_
        refine cw_seq ?_
        refine cw_block ?_
        refine cw_seq ?_
        refine cw_seq ?_
        refine cw_reg ?_
        refine ry (y_mov rfl rfl) rfl rfl ?_
        refine ry (y_mov rfl rfl) rfl rfl ?_
        refine ry (y_indexB (i := 1) rfl Tryd.underlying9 rfl rfl (rfl) (hB) (by omega)) rfl rfl ?_
        refine ry (y_lss rfl rfl rfl) rfl rfl ?_
        refine ry (y_mov rfl rfl) rfl rfl ?_
        refine rg_splitd (d := 57) rfl (fun h38 => ?_) (fun h38 => ?_)
        ·skip
         refine rg_off rfl rfl rfl rfl rfl ?_
         refine rg_off rfl rfl rfl rfl rfl ?_
         refine rg_off rfl rfl rfl rfl rfl ?_
         refine rg_off rfl rfl rfl rfl rfl ?_
         refine ry (y_pick rfl rfl rfl) rfl rfl ?_
         refine reg_nil ?_
         refine fn_next ?_
         refine cw_condt rfl ?_
         refine cw_seq ?_
         refine cw_reg ?_
         refine ry (y_asg rfl rfl) rfl rfl ?_
         refine ry (y_asg rfl rfl) rfl rfl ?_
         refine reg_nil ?_
         refine fn_next ?_
         refine cw_ret ?_
         refine fn_then_ret (fn_block_ret (fn_then_ret (fn_then_ret (fn_block_ret (fn_then_ret ?_)))))
         refine fn_retn (vs := [_, _]) rfl ⟨rfl, rfl, trivial⟩ rfl ?_
         have e1 : (runeD s).2 = 1 := by unfold runeD; simp only; (repeat' split) <;> first | omega | (simp only; omega)
         exact ⟨by rw [e1, okD_no (by omega) e1]; rfl, H0.base⟩
        ·skip
         refine rgy (y_mov rfl rfl) rfl rfl rfl rfl ?_
         refine rgy (y_mov rfl rfl) rfl rfl rfl rfl ?_
         refine rgy (y_indexB (i := 1) rfl Tryd.underlying9 rfl rfl (rfl) (hB) (by omega)) rfl rfl rfl rfl ?_
         refine rgy (y_gtr rfl rfl rfl) rfl rfl rfl rfl ?_
         refine ry (y_pick rfl rfl rfl) rfl rfl ?_
         refine reg_nil ?_
         refine fn_next ?_
         refine cw_condd rfl (fun h39 => ?_) (fun h39 => ?_)
         ·skip
          refine cw_seq ?_
          refine cw_reg ?_
          refine ry (y_asg rfl rfl) rfl rfl ?_
          refine ry (y_asg rfl rfl) rfl rfl ?_
          refine reg_nil ?_
          refine fn_next ?_
          refine cw_ret ?_
          refine fn_then_ret (fn_block_ret (fn_then_ret (fn_then_ret (fn_block_ret (fn_then_ret ?_)))))
          refine fn_retn (vs := [_, _]) rfl ⟨rfl, rfl, trivial⟩ rfl ?_
          have e1 : (runeD s).2 = 1 := by unfold runeD; simp only; (repeat' split) <;> first | omega | (simp only; omega)
          exact ⟨by rw [e1, okD_no (by omega) e1]; rfl, H0.base⟩
         ·skip
          refine cw_skip ?_
          refine fn_next ?_
          refine cw_reg ?_
          refine ry (y_mov rfl rfl) rfl rfl ?_
          refine ry (y_mul rfl rfl rfl (wi (by omega))) rfl rfl ?_
          refine ry (y_mov rfl rfl) rfl rfl ?_
          refine ry (y_mov rfl rfl) rfl rfl ?_
          refine ry (y_indexB (i := 1) rfl Tryd.underlying9 rfl rfl (rfl) (hB) (by omega)) rfl rfl ?_
          refine ry (y_conv rfl Tryd.underlying5 Tryd.underlying3 rfl (wi (by omega))) rfl rfl ?_
          refine ry (y_add rfl rfl rfl (wi (by omega))) rfl rfl ?_
          refine ry (y_sub rfl rfl rfl (wi (by omega))) rfl rfl ?_
          refine ry (y_asg rfl rfl) rfl rfl ?_
          refine reg_nil ?_
          refine fn_block ?_
          refine fn_next ?_
          refine cw_reg ?_
          refine ry (y_mov rfl rfl) rfl rfl ?_
          refine ry (y_add rfl rfl rfl (wi (by omega))) rfl rfl ?_
          refine ry (y_asg rfl rfl) rfl rfl ?_
          refine reg_nil ?_
          refine fn_roundR ?_
          have b2 := hB _ (nth_mem (show 2 < s.length by omega))
          refine cw_seq ?_
          refine cw_seq ?_
          refine cw_reg ?_
          refine ry (y_mov rfl rfl) rfl rfl ?_
          refine ry (y_mov rfl rfl) rfl rfl ?_
          refine ry (y_lss rfl rfl rfl) rfl rfl ?_
          refine reg_nil ?_
          refine fn_next ?_
          refine cw_condt rfl ?_
          refine cw_skip ?_
          refine fn_next ?_
          refine cw_seq ?_
          refine cw_block ?_
          refine cw_seq ?_
          refine cw_seq ?_
          refine cw_reg ?_
          refine ry (y_mov rfl rfl) rfl rfl ?_
          refine ry (y_mov rfl rfl) rfl rfl ?_
          refine ry (y_indexB (i := 2) rfl Tryd.underlying9 rfl rfl (rfl) (hB) (by omega)) rfl rfl ?_
          refine ry (y_lss rfl rfl rfl) rfl rfl ?_
          refine ry (y_mov rfl rfl) rfl rfl ?_
          refine rg_splitd (d := 57) rfl (fun h40 => ?_) (fun h40 => ?_)
          ·skip
           refine rg_off rfl rfl rfl rfl rfl ?_
           refine rg_off rfl rfl rfl rfl rfl ?_
           refine rg_off rfl rfl rfl rfl rfl ?_
           refine rg_off rfl rfl rfl rfl rfl ?_
           refine ry (y_pick rfl rfl rfl) rfl rfl ?_
           refine reg_nil ?_
           refine fn_next ?_
           refine cw_condt rfl ?_
           refine cw_seq ?_
           refine cw_reg ?_
           refine ry (y_asg rfl rfl) rfl rfl ?_
           refine ry (y_asg rfl rfl) rfl rfl ?_
           refine reg_nil ?_
           refine fn_next ?_
           refine cw_ret ?_
           refine fn_then_ret (fn_block_ret (fn_then_ret (fn_then_ret (fn_block_ret (fn_then_ret ?_)))))
           refine fn_retn (vs := [_, _]) rfl ⟨rfl, rfl, trivial⟩ rfl ?_
           have e1 : (runeD s).2 = 1 := by unfold runeD; simp only; (repeat' split) <;> first | omega | (simp only; omega)
           exact ⟨by rw [e1, okD_no (by omega) e1]; rfl, H0.base⟩
          ·skip
           refine rgy (y_mov rfl rfl) rfl rfl rfl rfl ?_
           refine rgy (y_mov rfl rfl) rfl rfl rfl rfl ?_
           refine rgy (y_indexB (i := 2) rfl Tryd.underlying9 rfl rfl (rfl) (hB) (by omega)) rfl rfl rfl rfl ?_
           refine rgy (y_gtr rfl rfl rfl) rfl rfl rfl rfl ?_
           refine ry (y_pick rfl rfl rfl) rfl rfl ?_
           refine reg_nil ?_
           refine fn_next ?_
           refine cw_condd rfl (fun h41 => ?_) (fun h41 => ?_)
           ·skip
            refine cw_seq ?_
            refine cw_reg ?_
            refine ry (y_asg rfl rfl) rfl rfl ?_
            refine ry (y_asg rfl rfl) rfl rfl ?_
            refine reg_nil ?_
            refine fn_next ?_
            refine cw_ret ?_
            refine fn_then_ret (fn_block_ret (fn_then_ret (fn_then_ret (fn_block_ret (fn_then_ret ?_)))))
            refine fn_retn (vs := [_, _]) rfl ⟨rfl, rfl, trivial⟩ rfl ?_
            have e1 : (runeD s).2 = 1 := by unfold runeD; simp only; (repeat' split) <;> first | omega | (simp only; omega)
            exact ⟨by rw [e1, okD_no (by omega) e1]; rfl, H0.base⟩
           ·skip
            refine cw_skip ?_
            refine fn_next ?_
            refine cw_reg ?_
            refine ry (y_mov rfl rfl) rfl rfl ?_
            refine ry (y_mul rfl rfl rfl (wi (by omega))) rfl rfl ?_
            refine ry (y_mov rfl rfl) rfl rfl ?_
            refine ry (y_mov rfl rfl) rfl rfl ?_
            refine ry (y_indexB (i := 2) rfl Tryd.underlying9 rfl rfl (rfl) (hB) (by omega)) rfl rfl ?_
            refine ry (y_conv rfl Tryd.underlying5 Tryd.underlying3 rfl (wi (by omega))) rfl rfl ?_
            refine ry (y_add rfl rfl rfl (wi (by omega))) rfl rfl ?_
            refine ry (y_sub rfl rfl rfl (wi (by omega))) rfl rfl ?_
            refine ry (y_asg rfl rfl) rfl rfl ?_
            refine reg_nil ?_
            refine fn_block ?_
            refine fn_next ?_
            refine cw_reg ?_
            refine ry (y_mov rfl rfl) rfl rfl ?_
            refine ry (y_add rfl rfl rfl (wi (by omega))) rfl rfl ?_
            refine ry (y_asg rfl rfl) rfl rfl ?_
            refine reg_nil ?_
            refine fn_roundR ?_
            have b3 := hB _ (nth_mem (show 3 < s.length by omega))
            refine cw_seq ?_
            refine cw_seq ?_
            refine cw_reg ?_
            refine ry (y_mov rfl rfl) rfl rfl ?_
            refine ry (y_mov rfl rfl) rfl rfl ?_
            refine ry (y_lss rfl rfl rfl) rfl rfl ?_
            refine reg_nil ?_
            refine fn_next ?_
            refine cw_condt rfl ?_
            refine cw_skip ?_
            refine fn_next ?_
            refine cw_seq ?_
            refine cw_block ?_
            refine cw_seq ?_
            refine cw_seq ?_
            refine cw_reg ?_
            refine ry (y_mov rfl rfl) rfl rfl ?_
            refine ry (y_mov rfl rfl) rfl rfl ?_
            refine ry (y_indexB (i := 3) rfl Tryd.underlying9 rfl rfl (rfl) (hB) (by omega)) rfl rfl ?_
            refine ry (y_lss rfl rfl rfl) rfl rfl ?_
            refine ry (y_mov rfl rfl) rfl rfl ?_
            refine rg_splitd (d := 57) rfl (fun h42 => ?_) (fun h42 => ?_)
            ·skip
             refine rg_off rfl rfl rfl rfl rfl ?_
             refine rg_off rfl rfl rfl rfl rfl ?_
             refine rg_off rfl rfl rfl rfl rfl ?_
             refine rg_off rfl rfl rfl rfl rfl ?_
             refine ry (y_pick rfl rfl rfl) rfl rfl ?_
             refine reg_nil ?_
             refine fn_next ?_
             refine cw_condt rfl ?_
             refine cw_seq ?_
             refine cw_reg ?_
             refine ry (y_asg rfl rfl) rfl rfl ?_
             refine ry (y_asg rfl rfl) rfl rfl ?_
             refine reg_nil ?_
             refine fn_next ?_
             refine cw_ret ?_
             refine fn_then_ret (fn_block_ret (fn_then_ret (fn_then_ret (fn_block_ret (fn_then_ret ?_)))))
             refine fn_retn (vs := [_, _]) rfl ⟨rfl, rfl, trivial⟩ rfl ?_
             have e1 : (runeD s).2 = 1 := by unfold runeD; simp only; (repeat' split) <;> first | omega | (simp only; omega)
             exact ⟨by rw [e1, okD_no (by omega) e1]; rfl, H0.base⟩
            ·skip
             refine rgy (y_mov rfl rfl) rfl rfl rfl rfl ?_
             refine rgy (y_mov rfl rfl) rfl rfl rfl rfl ?_
             refine rgy (y_indexB (i := 3) rfl Tryd.underlying9 rfl rfl (rfl) (hB) (by omega)) rfl rfl rfl rfl ?_
             refine rgy (y_gtr rfl rfl rfl) rfl rfl rfl rfl ?_
             refine ry (y_pick rfl rfl rfl) rfl rfl ?_
             refine reg_nil ?_
             refine fn_next ?_
             refine cw_condd rfl (fun h43 => ?_) (fun h43 => ?_)
             ·skip
              refine cw_seq ?_
              refine cw_reg ?_
              refine ry (y_asg rfl rfl) rfl rfl ?_
              refine ry (y_asg rfl rfl) rfl rfl ?_
              refine reg_nil ?_
              refine fn_next ?_
              refine cw_ret ?_
              refine fn_then_ret (fn_block_ret (fn_then_ret (fn_then_ret (fn_block_ret (fn_then_ret ?_)))))
              refine fn_retn (vs := [_, _]) rfl ⟨rfl, rfl, trivial⟩ rfl ?_
              have e1 : (runeD s).2 = 1 := by unfold runeD; simp only; (repeat' split) <;> first | omega | (simp only; omega)
              exact ⟨by rw [e1, okD_no (by omega) e1]; rfl, H0.base⟩
             ·skip
              refine cw_skip ?_
              refine fn_next ?_
              refine cw_reg ?_
              refine ry (y_mov rfl rfl) rfl rfl ?_
              refine ry (y_mul rfl rfl rfl (wi (by omega))) rfl rfl ?_
              refine ry (y_mov rfl rfl) rfl rfl ?_
              refine ry (y_mov rfl rfl) rfl rfl ?_
              refine ry (y_indexB (i := 3) rfl Tryd.underlying9 rfl rfl (rfl) (hB) (by omega)) rfl rfl ?_
              refine ry (y_conv rfl Tryd.underlying5 Tryd.underlying3 rfl (wi (by omega))) rfl rfl ?_
              refine ry (y_add rfl rfl rfl (wi (by omega))) rfl rfl ?_
              refine ry (y_sub rfl rfl rfl (wi (by omega))) rfl rfl ?_
              refine ry (y_asg rfl rfl) rfl rfl ?_
              refine reg_nil ?_
              refine fn_block ?_
              refine fn_next ?_
              refine cw_reg ?_
              refine ry (y_mov rfl rfl) rfl rfl ?_
              refine ry (y_add rfl rfl rfl (wi (by omega))) rfl rfl ?_
              refine ry (y_asg rfl rfl) rfl rfl ?_
              refine reg_nil ?_
              refine fn_roundR ?_
              refine cw_seq ?_
              refine cw_seq ?_
              refine cw_reg ?_
              refine ry (y_mov rfl rfl) rfl rfl ?_
              refine ry (y_mov rfl rfl) rfl rfl ?_
              refine ry (y_lss rfl rfl rfl) rfl rfl ?_
              refine reg_nil ?_
              refine fn_next ?_
              refine cw_condf rfl ?_
              refine cw_exit ?_
              refine fn_then_exit (fn_then_exit (fn_block_exit ?_))
              refine fn_next ?_
              refine cw_seq ?_
              refine cw_seq ?_
              refine cw_reg ?_
              refine ry (y_mov rfl rfl) rfl rfl ?_
              refine ry (y_mov rfl rfl) rfl rfl ?_
              refine ry (y_lss rfl rfl rfl) rfl rfl ?_
              refine ry (y_mov rfl rfl) rfl rfl ?_
              refine rg_splitd (d := 74) rfl (fun h44 => ?_) (fun h44 => ?_)
              ·skip
               refine rg_off rfl rfl rfl rfl rfl ?_
               refine rg_off rfl rfl rfl rfl rfl ?_
               refine ry (y_pick rfl rfl rfl) rfl rfl ?_
               refine ry (y_mov rfl rfl) rfl rfl ?_
               refine rg_off rfl rfl rfl rfl rfl ?_
               refine rg_off rfl rfl rfl rfl rfl ?_
               refine rg_off rfl rfl rfl rfl rfl ?_
               refine rg_offu rfl rfl rfl rfl ?_
               refine rg_offu rfl rfl rfl rfl ?_
               refine rg_off rfl rfl rfl rfl rfl ?_
               refine ry (y_pick rfl rfl rfl) rfl rfl ?_
               refine reg_nil ?_
               refine fn_next ?_
               refine cw_condt rfl ?_
               refine cw_seq ?_
               refine cw_reg ?_
               refine ry (y_asg rfl rfl) rfl rfl ?_
               refine ry (y_asg rfl rfl) rfl rfl ?_
               refine reg_nil ?_
               refine fn_next ?_
               refine cw_ret ?_
               refine fn_then_ret ?_
               refine fn_retn (vs := [_, _]) rfl ⟨rfl, rfl, trivial⟩ rfl ?_
               have e1 : (runeD s).2 = 1 := by unfold runeD; simp only; (repeat' split) <;> first | omega | (simp only; omega)
               exact ⟨by rw [e1, okD_no (by omega) e1]; rfl, H0.base⟩
              ·skip
               refine rgy (y_mov rfl rfl) rfl rfl rfl rfl ?_
               refine rgy (y_gtr rfl rfl rfl) rfl rfl rfl rfl ?_
               refine ry (y_pick rfl rfl rfl) rfl rfl ?_
               refine ry (y_mov rfl rfl) rfl rfl ?_
               refine rg_splitd (d := 78) rfl (fun h45 => ?_) (fun h45 => ?_)
               ·skip
                refine rg_off rfl rfl rfl rfl rfl ?_
                refine rg_off rfl rfl rfl rfl rfl ?_
                refine rg_off rfl rfl rfl rfl rfl ?_
                refine rg_offu rfl rfl rfl rfl ?_
                refine rg_offu rfl rfl rfl rfl ?_
                refine rg_off rfl rfl rfl rfl rfl ?_
                refine ry (y_pick rfl rfl rfl) rfl rfl ?_
                refine reg_nil ?_
                refine fn_next ?_
                refine cw_condt rfl ?_
                refine cw_seq ?_
                refine cw_reg ?_
                refine ry (y_asg rfl rfl) rfl rfl ?_
                refine ry (y_asg rfl rfl) rfl rfl ?_
                refine reg_nil ?_
                refine fn_next ?_
                refine cw_ret ?_
                refine fn_then_ret ?_
                refine fn_retn (vs := [_, _]) rfl ⟨rfl, rfl, trivial⟩ rfl ?_
                have e1 : (runeD s).2 = 1 := by unfold runeD; simp only; (repeat' split) <;> first | omega | (simp only; omega)
                exact ⟨by rw [e1, okD_no (by omega) e1]; rfl, H0.base⟩
               ·skip
                refine rgy (y_mov rfl rfl) rfl rfl rfl rfl ?_
                refine rgy (y_geq rfl rfl rfl) rfl rfl rfl rfl ?_
                refine rgy (y_mov rfl rfl) rfl rfl rfl rfl ?_
                refine rg_splitd (d := 81) rfl (fun h46 => ?_) (fun h46 => ?_)
                ·skip
                 refine rgy (y_mov rfl rfl) rfl rfl rfl rfl ?_
                 refine rgy (y_lss rfl rfl rfl) rfl rfl rfl rfl ?_
                 refine rgy (y_pick rfl rfl rfl) rfl rfl rfl rfl ?_
                 refine ry (y_pick rfl rfl rfl) rfl rfl ?_
                 refine reg_nil ?_
                 refine fn_next ?_
                 refine cw_condd rfl (fun h47 => ?_) (fun h47 => ?_)
                 ·skip
                  refine cw_seq ?_
                  refine cw_reg ?_
                  refine ry (y_asg rfl rfl) rfl rfl ?_
                  refine ry (y_asg rfl rfl) rfl rfl ?_
                  refine reg_nil ?_
                  refine fn_next ?_
                  refine cw_ret ?_
                  refine fn_then_ret ?_
                  refine fn_retn (vs := [_, _]) rfl ⟨rfl, rfl, trivial⟩ rfl ?_
                  have e1 : (runeD s).2 = 1 := by unfold runeD; simp only; (repeat' split) <;> first | omega | (simp only; omega)
                  exact ⟨by rw [e1, okD_no (by omega) e1]; rfl, H0.base⟩
                 ·skip
                  refine cw_skip ?_
                  refine fn_next ?_
                  refine cw_seq ?_
                  refine cw_reg ?_
                  refine ry (y_mov rfl rfl) rfl rfl ?_
                  refine ry (y_asg rfl rfl) rfl rfl ?_
                  refine ry (y_asg rfl rfl) rfl rfl ?_
                  refine reg_nil ?_
                  refine fn_next ?_
                  refine cw_ret ?_
                  refine fn_retn (vs := [_, _]) rfl ⟨rfl, rfl, trivial⟩ rfl ?_
                  have e1 : (runeD s).2 = 4 := by unfold runeD; simp only; (repeat' split) <;> first | omega | (simp only; omega)
                  exact ⟨by rw [e1, okD_yes (.inr (by omega))]; rfl, H0.base⟩
                ·skip
                 refine rg_off rfl rfl rfl rfl rfl ?_
                 refine rg_off rfl rfl rfl rfl rfl ?_
                 refine rgy (y_pick rfl rfl rfl) rfl rfl rfl rfl ?_
                 refine ry (y_pick rfl rfl rfl) rfl rfl ?_
                 refine reg_nil ?_
                 refine fn_next ?_
                 refine cw_condf rfl ?_
                 refine cw_skip ?_
                 refine fn_next ?_
                 refine cw_seq ?_
                 refine cw_reg ?_
                 refine ry (y_mov rfl rfl) rfl rfl ?_
                 refine ry (y_asg rfl rfl) rfl rfl ?_
                 refine ry (y_asg rfl rfl) rfl rfl ?_
                 refine reg_nil ?_
                 refine fn_next ?_
                 refine cw_ret ?_
                 refine fn_retn (vs := [_, _]) rfl ⟨rfl, rfl, trivial⟩ rfl ?_
                 have e1 : (runeD s).2 = 4 := by unfold runeD; simp only; (repeat' split) <;> first | omega | (simp only; omega)
                 exact ⟨by rw [e1, okD_yes (.inr (by omega))]; rfl, H0.base⟩
      ·skip
       refine cw_skip ?_
       refine fn_next ?_
       refine cw_seq ?_
       refine cw_seq ?_
       refine cw_reg ?_
       refine ry (y_mov rfl rfl) rfl rfl ?_
       refine ry (y_eql rfl rfl rfl) rfl rfl ?_
       refine ry (y_mov rfl rfl) rfl rfl ?_
       refine rg_off rfl rfl rfl rfl rfl ?_
       refine rg_off rfl rfl rfl rfl rfl ?_
       refine rg_off rfl rfl rfl rfl rfl ?_
       refine rg_off rfl rfl rfl rfl rfl ?_
       refine ry (y_pick rfl rfl rfl) rfl rfl ?_
       refine reg_nil ?_
       refine fn_next ?_
       refine cw_condt rfl ?_
       refine cw_seq ?_
       refine cw_reg ?_
       refine ry (y_asg rfl rfl) rfl rfl ?_
       refine ry (y_asg rfl rfl) rfl rfl ?_
       refine reg_nil ?_
       refine fn_next ?_
       refine cw_ret ?_
       refine fn_then_ret ?_
       refine fn_retn (vs := [_, _]) rfl ⟨rfl, rfl, trivial⟩ rfl ?_
       have e1 : (runeD s).2 = 1 := by unfold runeD; simp only; (repeat' split) <;> first | omega | (simp only; omega)
       exact ⟨by rw [e1, okD_no (by omega) e1]; rfl, H0.base⟩
     ·skip
      refine rg_off rfl rfl rfl rfl rfl ?_
      refine rg_off rfl rfl rfl rfl rfl ?_
      refine ry (y_pick rfl rfl rfl) rfl rfl ?_
      refine reg_nil ?_
      refine fn_next ?_
      refine cw_condf rfl ?_
      refine cw_skip ?_
      refine fn_next ?_
      refine cw_seq ?_
      refine cw_seq ?_
      refine cw_reg ?_
      refine ry (y_mov rfl rfl) rfl rfl ?_
      refine ry (y_eql rfl rfl rfl) rfl rfl ?_
      refine ry (y_mov rfl rfl) rfl rfl ?_
      refine rg_off rfl rfl rfl rfl rfl ?_
      refine rg_off rfl rfl rfl rfl rfl ?_
      refine rg_off rfl rfl rfl rfl rfl ?_
      refine rg_off rfl rfl rfl rfl rfl ?_
      refine ry (y_pick rfl rfl rfl) rfl rfl ?_
      refine reg_nil ?_
      refine fn_next ?_
      refine cw_condt rfl ?_
      refine cw_seq ?_
      refine cw_reg ?_
      refine ry (y_asg rfl rfl) rfl rfl ?_
      refine ry (y_asg rfl rfl) rfl rfl ?_
      refine reg_nil ?_
      refine fn_next ?_
      refine cw_ret ?_
      refine fn_then_ret ?_
      refine fn_retn (vs := [_, _]) rfl ⟨rfl, rfl, trivial⟩ rfl ?_
      have e1 : (runeD s).2 = 1 := by unfold runeD; simp only; (repeat' split) <;> first | omega | (simp only; omega)
      exact ⟨by rw [e1, okD_no (by omega) e1]; rfl, H0.base⟩
  ·skip
   refine rg_off rfl rfl rfl rfl rfl ?_
   refine rg_off rfl rfl rfl rfl rfl ?_
   refine ry (y_pick rfl rfl rfl) rfl rfl ?_
   refine reg_nil ?_
   refine fn_next ?_
   refine cw_condf rfl ?_
   refine cw_seq ?_
   refine cw_reg ?_
   refine ry (y_mov rfl rfl) rfl rfl ?_
   refine ry (y_geq rfl rfl rfl) rfl rfl ?_
   refine ry (y_mov rfl rfl) rfl rfl ?_
   refine rg_splitd (d := 24) rfl (fun h48 => ?_) (fun h48 => ?_)
   ·skip
    refine rgy (y_mov rfl rfl) rfl rfl rfl rfl ?_
    refine rgy (y_lss rfl rfl rfl) rfl rfl rfl rfl ?_
    refine ry (y_pick rfl rfl rfl) rfl rfl ?_
    refine reg_nil ?_
    refine fn_next ?_
    refine cw_condd rfl (fun h49 => ?_) (fun h49 => ?_)
    ·skip
     refine cw_reg ?_
     refine ry (y_mov rfl rfl) rfl rfl ?_
     refine ry (y_conv rfl Tryd.underlying5 Tryd.underlying3 rfl (wi (by omega))) rfl rfl ?_
     refine ry (y_sub rfl rfl rfl (wi (by omega))) rfl rfl ?_
     refine ry (y_asg rfl rfl) rfl rfl ?_
     refine ry (y_asg rfl rfl) rfl rfl ?_
     refine ry (y_asg rfl rfl) rfl rfl ?_
     refine reg_nil ?_
     refine fn_next ?_
     refine cw_seq ?_
     refine cw_seq ?_
     refine cw_reg ?_
     refine ry (y_mov rfl rfl) rfl rfl ?_
     refine ry (y_eql rfl rfl rfl) rfl rfl ?_
     refine ry (y_mov rfl rfl) rfl rfl ?_
     refine rgy (y_mov rfl rfl) rfl rfl rfl rfl ?_
     refine rgy (y_mov rfl rfl) rfl rfl rfl rfl ?_
     refine rgy (y_lenB rfl Tryd.underlying9 rfl) rfl rfl rfl rfl ?_
     refine rgy (y_gtr rfl rfl rfl) rfl rfl rfl rfl ?_
     refine ry (y_pick rfl rfl rfl) rfl rfl ?_
     refine reg_nil ?_
     refine fn_next ?_
     refine cw_condd rfl (fun h50 => ?_) (fun h50 => ?_)
     ·skip
      refine cw_seq ?_
      refine cw_reg ?_
      refine ry (y_asg rfl rfl) rfl rfl ?_
      refine ry (y_asg rfl rfl) rfl rfl ?_
      refine reg_nil ?_
      refine fn_next ?_
      refine cw_ret ?_
      refine fn_then_ret ?_
      refine fn_retn (vs := [_, _]) rfl ⟨rfl, rfl, trivial⟩ rfl ?_
      have e1 : (runeD s).2 = 1 := by unfold runeD; simp only; (repeat' split) <;> first | omega | (simp only; omega)
      exact ⟨by rw [e1, okD_no (by omega) e1]; rfl, H0.base⟩
     ·skip
      refine cw_skip ?_
      refine fn_next ?_
      refine cw_seq ?_
      refine cw_seq ?_
      refine cw_reg ?_
      refine ry (y_asg rfl rfl) rfl rfl ?_
      refine reg_nil ?_
      refine fn_next ?_
      refine cw_block ?_
      refine cw_loopR 3 ?_
      have b1 := hB _ (nth_mem (show 1 < s.length by omega))
      refine cw_seq ?_
      refine cw_seq ?_
      refine cw_reg ?_
      refine ry (y_mov rfl rfl) rfl rfl ?_
      refine ry (y_mov rfl rfl) rfl rfl ?_
      refine ry (y_lss rfl rfl rfl) rfl rfl ?_
      refine reg_nil ?_
      refine fn_next ?_
      refine cw_condt rfl ?_
      refine cw_skip ?_
      refine fn_next ?_
      refine cw_seq ?_
      refine cw_block ?_
      refine cw_seq ?_
      refine cw_seq ?_
      refine cw_reg ?_
      refine ry (y_mov rfl rfl) rfl rfl ?_
      refine ry (y_mov rfl rfl) rfl rfl ?_
      refine ry (y_indexB (i := 1) rfl Tryd.underlying9 rfl rfl (rfl) (hB) (by omega)) rfl rfl ?_
      refine ry (y_lss rfl rfl rfl) rfl rfl ?_
      refine ry (y_mov rfl rfl) rfl rfl ?_
      refine rg_splitd (d := 57) rfl (fun h51 => ?_) (fun h51 => ?_)
      ·skip
       refine rg_off rfl rfl rfl rfl rfl ?_
       refine rg_off rfl rfl rfl rfl rfl ?_
       refine rg_off rfl rfl rfl rfl rfl ?_
       refine rg_off rfl rfl rfl rfl rfl ?_
       refine ry (y_pick rfl rfl rfl) rfl rfl ?_
       refine reg_nil ?_
       refine fn_next ?_
       refine cw_condt rfl ?_
       refine cw_seq ?_
       refine cw_reg ?_
       refine ry (y_asg rfl rfl) rfl rfl ?_
       refine ry (y_asg rfl rfl) rfl rfl ?_
       refine reg_nil ?_
       refine fn_next ?_
       refine cw_ret ?_
       refine fn_then_ret (fn_block_ret (fn_then_ret (fn_then_ret (fn_block_ret (fn_then_ret ?_)))))
       refine fn_retn (vs := [_, _]) rfl ⟨rfl, rfl, trivial⟩ rfl ?_
       have e1 : (runeD s).2 = 1 := by unfold runeD; simp only; (repeat' split) <;> first | omega | (simp only; omega)
       exact ⟨by rw [e1, okD_no (by omega) e1]; rfl, H0.base⟩
      ·skip
       refine rgy (y_mov rfl rfl) rfl rfl rfl rfl ?_
       refine rgy (y_mov rfl rfl) rfl rfl rfl rfl ?_
       refine rgy (y_indexB (i := 1) rfl Tryd.underlying9 rfl rfl (rfl) (hB) (by omega)) rfl rfl rfl rfl ?_
       refine rgy (y_gtr rfl rfl rfl) rfl rfl rfl rfl ?_
       refine ry (y_pick rfl rfl rfl) rfl rfl ?_
       refine reg_nil ?_
       refine fn_next ?_
       refine cw_condd rfl (fun h52 => ?_) (fun h52 => ?_)
       ·skip
        refine cw_seq ?_
        refine cw_reg ?_
        refine ry (y_asg rfl rfl) rfl rfl ?_
        refine ry (y_asg rfl rfl) rfl rfl ?_
        refine reg_nil ?_
        refine fn_next ?_
        refine cw_ret ?_
        refine fn_then_ret (fn_block_ret (fn_then_ret (fn_then_ret (fn_block_ret (fn_then_ret ?_)))))
        refine fn_retn (vs := [_, _]) rfl ⟨rfl, rfl, trivial⟩ rfl ?_
        have e1 : (runeD s).2 = 1 := by unfold runeD; simp only; (repeat' split) <;> first | omega | (simp only; omega)
        exact ⟨by rw [e1, okD_no (by omega) e1]; rfl, H0.base⟩
       ·skip
        refine cw_skip ?_
        refine fn_next ?_
        refine cw_reg ?_
        refine ry (y_mov rfl rfl) rfl rfl ?_
        refine ry (y_mul rfl rfl rfl (wi (by omega))) rfl rfl ?_
        refine ry (y_mov rfl rfl) rfl rfl ?_
        refine ry (y_mov rfl rfl) rfl rfl ?_
        refine ry (y_indexB (i := 1) rfl Tryd.underlying9 rfl rfl (rfl) (hB) (by omega)) rfl rfl ?_
        refine ry (y_conv rfl Tryd.underlying5 Tryd.underlying3 rfl (wi (by omega))) rfl rfl ?_
        refine ry (y_add rfl rfl rfl (wi (by omega))) rfl rfl ?_
        refine ry (y_sub rfl rfl rfl (wi (by omega))) rfl rfl ?_
        refine ry (y_asg rfl rfl) rfl rfl ?_
        refine reg_nil ?_
        refine fn_block ?_
        refine fn_next ?_
        refine cw_reg ?_
        refine ry (y_mov rfl rfl) rfl rfl ?_
        refine ry (y_add rfl rfl rfl (wi (by omega))) rfl rfl ?_
        refine ry (y_asg rfl rfl) rfl rfl ?_
        refine reg_nil ?_
        refine fn_roundR ?_
        have b2 := hB _ (nth_mem (show 2 < s.length by omega))
        refine cw_seq ?_
        refine cw_seq ?_
        refine cw_reg ?_
        refine ry (y_mov rfl rfl) rfl rfl ?_
        refine ry (y_mov rfl rfl) rfl rfl ?_
        refine ry (y_lss rfl rfl rfl) rfl rfl ?_
        refine reg_nil ?_
        refine fn_next ?_
        refine cw_condt rfl ?_
        refine cw_skip ?_
        refine fn_next ?_
        refine cw_seq ?_
        refine cw_block ?_
        refine cw_seq ?_
        refine cw_seq ?_
        refine cw_reg ?_
        refine ry (y_mov rfl rfl) rfl rfl ?_
        refine ry (y_mov rfl rfl) rfl rfl ?_
        refine ry (y_indexB (i := 2) rfl Tryd.underlying9 rfl rfl (rfl) (hB) (by omega)) rfl rfl ?_
        refine ry (y_lss rfl rfl rfl) rfl rfl ?_
        refine ry (y_mov rfl rfl) rfl rfl ?_
        refine rg_splitd (d := 57) rfl (fun h53 => ?_) (fun h53 => ?_)
        ·skip
         refine rg_off rfl rfl rfl rfl rfl ?_
         refine rg_off rfl rfl rfl rfl rfl ?_
         refine rg_off rfl rfl rfl rfl rfl ?_
         refine rg_off rfl rfl rfl rfl rfl ?_
         refine ry (y_pick rfl rfl rfl) rfl rfl ?_
         refine reg_nil ?_
         refine fn_next ?_
         refine cw_condt rfl ?_
         refine cw_seq ?_
         refine cw_reg ?_
         refine ry (y_asg rfl rfl) rfl rfl ?_
         refine ry (y_asg rfl rfl) rfl rfl ?_
         refine reg_nil ?_
         refine fn_next ?_
         refine cw_ret ?_
         refine fn_then_ret (fn_block_ret (fn_then_ret (fn_then_ret (fn_block_ret (fn_then_ret ?_)))))
         refine fn_retn (vs := [_, _]) rfl ⟨rfl, rfl, trivial⟩ rfl ?_
         have e1 : (runeD s).2 = 1 := by unfold runeD; simp only; (repeat' split) <;> first | omega | (simp only; omega)
         exact ⟨by rw [e1, okD_no (by omega) e1]; rfl, H0.base⟩
        ·skip
         refine rgy (y_mov rfl rfl) rfl rfl rfl rfl ?_
         refine rgy (y_mov rfl rfl) rfl rfl rfl rfl ?_
         refine rgy (y_indexB (i := 2) rfl Tryd.underlying9 rfl rfl (rfl) (hB) (by omega)) rfl rfl rfl rfl ?_
         refine rgy (y_gtr rfl rfl rfl) rfl rfl rfl rfl ?_
         refine ry (y_pick rfl rfl rfl) rfl rfl ?_
         refine reg_nil ?_
         refine fn_next ?_
         refine cw_condd rfl (fun h54 => ?_) (fun h54 => ?_)
         ·skip
          refine cw_seq ?_
          refine cw_reg ?_
          refine ry (y_asg rfl rfl) rfl rfl ?_
          refine ry (y_asg rfl rfl) rfl rfl ?_
          refine reg_nil ?_
          refine fn_next ?_
          refine cw_ret ?_
          refine fn_then_ret (fn_block_ret (fn_then_ret (fn_then_ret (fn_block_ret (fn_then_ret ?_)))))
          refine fn_retn (vs := [_, _]) rfl ⟨rfl, rfl, trivial⟩ rfl ?_
          have e1 : (runeD s).2 = 1 := by unfold runeD; simp only; (repeat' split) <;> first | omega | (simp only; omega)
          exact ⟨by rw [e1, okD_no (by omega) e1]; rfl, H0.base⟩
         ·skip
          refine cw_skip ?_
          refine fn_next ?_
          refine cw_reg ?_
          refine ry (y_mov rfl rfl) rfl rfl ?_
          refine ry (y_mul rfl rfl rfl (wi (by omega))) rfl rfl ?_
          refine ry (y_mov rfl rfl) rfl rfl ?_
          refine ry (y_mov rfl rfl) rfl rfl ?_
          refine ry (y_indexB (i := 2) rfl Tryd.underlying9 rfl rfl (rfl) (hB) (by omega)) rfl rfl ?_
          refine ry (y_conv rfl Tryd.underlying5 Tryd.underlying3 rfl (wi (by omega))) rfl rfl ?_
          refine ry (y_add rfl rfl rfl (wi (by omega))) rfl rfl ?_
          refine ry (y_sub rfl rfl rfl (wi (by omega))) rfl rfl ?_
          refine ry (y_asg rfl rfl) rfl rfl ?_
          refine reg_nil ?_
          refine fn_block ?_
          refine fn_next ?_
          refine cw_reg ?_
          refine ry (y_mov rfl rfl) rfl rfl ?_
          refine ry (y_add rfl rfl rfl (wi (by omega))) rfl rfl ?_
          refine ry (y_asg rfl rfl) rfl rfl ?_
          refine reg_nil ?_
          refine fn_roundR ?_
          refine cw_seq ?_
          refine cw_seq ?_
          refine cw_reg ?_
          refine ry (y_mov rfl rfl) rfl rfl ?_
          refine ry (y_mov rfl rfl) rfl rfl ?_
          refine ry (y_lss rfl rfl rfl) rfl rfl ?_
          refine reg_nil ?_
          refine fn_next ?_
          refine cw_condf rfl ?_
          refine cw_exit ?_
          refine fn_then_exit (fn_then_exit (fn_block_exit ?_))
          refine fn_next ?_
          refine cw_seq ?_
          refine cw_seq ?_
          refine cw_reg ?_
          refine ry (y_mov rfl rfl) rfl rfl ?_
          refine ry (y_mov rfl rfl) rfl rfl ?_
          refine ry (y_lss rfl rfl rfl) rfl rfl ?_
          refine ry (y_mov rfl rfl) rfl rfl ?_
          refine rg_splitd (d := 74) rfl (fun h55 => ?_) (fun h55 => ?_)
          ·skip
           refine rg_off rfl rfl rfl rfl rfl ?_
           refine rg_off rfl rfl rfl rfl rfl ?_
           refine ry (y_pick rfl rfl rfl) rfl rfl ?_
           refine ry (y_mov rfl rfl) rfl rfl ?_
           refine rg_off rfl rfl rfl rfl rfl ?_
           refine rg_off rfl rfl rfl rfl rfl ?_
           refine rg_off rfl rfl rfl rfl rfl ?_
           refine rg_offu rfl rfl rfl rfl ?_
           refine rg_offu rfl rfl rfl rfl ?_
           refine rg_off rfl rfl rfl rfl rfl ?_
           refine ry (y_pick rfl rfl rfl) rfl rfl ?_
           refine reg_nil ?_
           refine fn_next ?_
           refine cw_condt rfl ?_
           refine cw_seq ?_
           refine cw_reg ?_
           refine ry (y_asg rfl rfl) rfl rfl ?_
           refine ry (y_asg rfl rfl) rfl rfl ?_
           refine reg_nil ?_
           refine fn_next ?_
           refine cw_ret ?_
           refine fn_then_ret ?_
           refine fn_retn (vs := [_, _]) rfl ⟨rfl, rfl, trivial⟩ rfl ?_
           have e1 : (runeD s).2 = 1 := by unfold runeD; simp only; (repeat' split) <;> first | omega | (simp only; omega)
           exact ⟨by rw [e1, okD_no (by omega) e1]; rfl, H0.base⟩
          ·skip
           refine rgy (y_mov rfl rfl) rfl rfl rfl rfl ?_
           refine rgy (y_gtr rfl rfl rfl) rfl rfl rfl rfl ?_
           refine ry (y_pick rfl rfl rfl) rfl rfl ?_
           refine ry (y_mov rfl rfl) rfl rfl ?_
           refine rg_splitd (d := 78) rfl (fun h56 => ?_) (fun h56 => ?_)
           ·skip
            refine rg_off rfl rfl rfl rfl rfl ?_
            refine rg_off rfl rfl rfl rfl rfl ?_
            refine rg_off rfl rfl rfl rfl rfl ?_
            refine rg_offu rfl rfl rfl rfl ?_
            refine rg_offu rfl rfl rfl rfl ?_
            refine rg_off rfl rfl rfl rfl rfl ?_
            refine ry (y_pick rfl rfl rfl) rfl rfl ?_
            refine reg_nil ?_
            refine fn_next ?_
            refine cw_condt rfl ?_
            refine cw_seq ?_
            refine cw_reg ?_
            refine ry (y_asg rfl rfl) rfl rfl ?_
            refine ry (y_asg rfl rfl) rfl rfl ?_
            refine reg_nil ?_
            refine fn_next ?_
            refine cw_ret ?_
            refine fn_then_ret ?_
            refine fn_retn (vs := [_, _]) rfl ⟨rfl, rfl, trivial⟩ rfl ?_
            have e1 : (runeD s).2 = 1 := by unfold runeD; simp only; (repeat' split) <;> first | omega | (simp only; omega)
            exact ⟨by rw [e1, okD_no (by omega) e1]; rfl, H0.base⟩
           ·skip
            refine rgy (y_mov rfl rfl) rfl rfl rfl rfl ?_
            refine rgy (y_geq rfl rfl rfl) rfl rfl rfl rfl ?_
            refine rgy (y_mov rfl rfl) rfl rfl rfl rfl ?_
            refine rg_splitd (d := 81) rfl (fun h57 => ?_) (fun h57 => ?_)
            ·skip
             refine rgy (y_mov rfl rfl) rfl rfl rfl rfl ?_
             refine rgy (y_lss rfl rfl rfl) rfl rfl rfl rfl ?_
             refine rgy (y_pick rfl rfl rfl) rfl rfl rfl rfl ?_
             refine ry (y_pick rfl rfl rfl) rfl rfl ?_
             refine reg_nil ?_
             refine fn_next ?_
             refine cw_condd rfl (fun h58 => ?_) (fun h58 => ?_)
             ·skip
              refine cw_seq ?_
              refine cw_reg ?_
              refine ry (y_asg rfl rfl) rfl rfl ?_
              refine ry (y_asg rfl rfl) rfl rfl ?_
              refine reg_nil ?_
              refine fn_next ?_
              refine cw_ret ?_
              refine fn_then_ret ?_
              refine fn_retn (vs := [_, _]) rfl ⟨rfl, rfl, trivial⟩ rfl ?_
              have e1 : (runeD s).2 = 1 := by unfold runeD; simp only; (repeat' split) <;> first | omega | (simp only; omega)
              exact ⟨by rw [e1, okD_no (by omega) e1]; rfl, H0.base⟩
             ·skip
              refine cw_skip ?_
              refine fn_next ?_
              refine cw_seq ?_
              refine cw_reg ?_
              refine ry (y_mov rfl rfl) rfl rfl ?_
              refine ry (y_asg rfl rfl) rfl rfl ?_
              refine ry (y_asg rfl rfl) rfl rfl ?_
              refine reg_nil ?_
              refine fn_next ?_
              refine cw_ret ?_
              refine fn_retn (vs := [_, _]) rfl ⟨rfl, rfl, trivial⟩ rfl ?_
              have e1 : (runeD s).2 = 3 := by unfold runeD; simp only; (repeat' split) <;> first | omega | (simp only; omega)
              exact ⟨by rw [e1, okD_yes (.inr (by omega))]; rfl, H0.base⟩
            ·skip
             refine rg_off rfl rfl rfl rfl rfl ?_
             refine rg_off rfl rfl rfl rfl rfl ?_
             refine rgy (y_pick rfl rfl rfl) rfl rfl rfl rfl ?_
             refine ry (y_pick rfl rfl rfl) rfl rfl ?_
             refine reg_nil ?_
             refine fn_next ?_
             refine cw_condf rfl ?_
             refine cw_skip ?_
             refine fn_next ?_
             refine cw_seq ?_
             refine cw_reg ?_
             refine ry (y_mov rfl rfl) rfl rfl ?_
             refine ry (y_asg rfl rfl) rfl rfl ?_
             refine ry (y_asg rfl rfl) rfl rfl ?_
             refine reg_nil ?_
             refine fn_next ?_
             refine cw_ret ?_
             refine fn_retn (vs := [_, _]) rfl ⟨rfl, rfl, trivial⟩ rfl ?_
             have e1 : (runeD s).2 = 3 := by unfold runeD; simp only; (repeat' split) <;> first | omega | (simp only; omega)
             exact ⟨by rw [e1, okD_yes (.inr (by omega))]; rfl, H0.base⟩
    ·skip
     refine cw_seq ?_
     refine cw_reg ?_
     refine ry (y_mov rfl rfl) rfl rfl ?_
     refine ry (y_geq rfl rfl rfl) rfl rfl ?_
     refine ry (y_mov rfl rfl) rfl rfl ?_
     refine rg_splitd (d := 33) rfl (fun h59 => ?_) (fun h59 => ?_)
     ·skip
      refine rgy (y_mov rfl rfl) rfl rfl rfl rfl ?_
      refine rgy (y_lss rfl rfl rfl) rfl rfl rfl rfl ?_
      refine ry (y_pick rfl rfl rfl) rfl rfl ?_
      refine reg_nil ?_
      refine fn_next ?_
      refine cw_condd rfl (fun h60 => ?_) (fun h60 => ?_)
      ·skip
       refine cw_reg ?_
       refine ry (y_mov rfl rfl) rfl rfl ?_
       refine ry (y_conv rfl Tryd.underlying5 Tryd.underlying3 rfl (wi (by omega))) rfl rfl ?_
       refine ry (y_sub rfl rfl rfl (wi (by omega))) rfl rfl ?_
       refine ry (y_asg rfl rfl) rfl rfl ?_
       refine ry (y_asg rfl rfl) rfl rfl ?_
       refine ry (y_asg rfl rfl) rfl rfl ?_
       refine reg_nil ?_
       refine fn_next ?_
       refine cw_seq ?_
       refine cw_seq ?_
       refine cw_reg ?_
       refine ry (y_mov rfl rfl) rfl rfl ?_
       refine ry (y_eql rfl rfl rfl) rfl rfl ?_
       refine ry (y_mov rfl rfl) rfl rfl ?_
       refine rgy (y_mov rfl rfl) rfl rfl rfl rfl ?_
       refine rgy (y_mov rfl rfl) rfl rfl rfl rfl ?_
       refine rgy (y_lenB rfl Tryd.underlying9 rfl) rfl rfl rfl rfl ?_
       refine rgy (y_gtr rfl rfl rfl) rfl rfl rfl rfl ?_
       refine ry (y_pick rfl rfl rfl) rfl rfl ?_
       refine reg_nil ?_
       refine fn_next ?_
       refine cw_condd rfl (fun h61 => ?_) (fun h61 => ?_)
       ·skip
        refine cw_seq ?_
        refine cw_reg ?_
        refine ry (y_asg rfl rfl) rfl rfl ?_
        refine ry (y_asg rfl rfl) rfl rfl ?_
        refine reg_nil ?_
        refine fn_next ?_
        refine cw_ret ?_
        refine fn_then_ret ?_
        refine fn_retn (vs := [_, _]) rfl ⟨rfl, rfl, trivial⟩ rfl ?_
        have e1 : (runeD s).2 = 1 := by unfold runeD; simp only; (repeat' split) <;> first | omega | (simp only; omega)
        exact ⟨by rw [e1, okD_no (by omega) e1]; rfl, H0.base⟩
       ·skip
        refine cw_skip ?_
        refine fn_next ?_
        refine cw_seq ?_
        refine cw_seq ?_
        refine cw_reg ?_
        refine ry (y_asg rfl rfl) rfl rfl ?_
        refine reg_nil ?_
        refine fn_next ?_
        refine cw_block ?_
        refine cw_loopR 4 ?_
        have b1 := hB _ (nth_mem (show 1 < s.length by omega))
        refine cw_seq ?_
        refine cw_seq ?_
        refine cw_reg ?_
        refine ry (y_mov rfl rfl) rfl rfl ?_
        refine ry (y_mov rfl rfl) rfl rfl ?_
        refine ry (y_lss rfl rfl rfl) rfl rfl ?_
        refine reg_nil ?_
        refine fn_next ?_
        refine cw_condt rfl ?_
        refine cw_skip ?_
        refine fn_next ?_
        refine cw_seq ?_
        refine cw_block ?_
        refine cw_seq ?_
        refine cw_seq ?_
        refine cw_reg ?_
        refine ry (y_mov rfl rfl) rfl rfl ?_
        refine ry (y_mov rfl rfl) rfl rfl ?_
        refine ry (y_indexB (i := 1) rfl Tryd.underlying9 rfl rfl (rfl) (hB) (by omega)) rfl rfl ?_
        refine ry (y_lss rfl rfl rfl) rfl rfl ?_
        refine ry (y_mov rfl rfl) rfl rfl ?_
        refine rg_splitd (d := 57) rfl (fun h62 => ?_) (fun h62 => ?_)
        ·skip
         refine rg_off rfl rfl rfl rfl rfl ?_
         refine rg_off rfl rfl rfl rfl rfl ?_
         refine rg_off rfl rfl rfl rfl rfl ?_
         refine rg_off rfl rfl rfl rfl rfl ?_
         refine ry (y_pick rfl rfl rfl) rfl rfl ?_
         refine reg_nil ?_
         refine fn_next ?_
         refine cw_condt rfl ?_
         refine cw_seq ?_
         refine cw_reg ?_
         refine ry (y_asg rfl rfl) rfl rfl ?_
         refine ry (y_asg rfl rfl) rfl rfl ?_
         refine reg_nil ?_
         refine fn_next ?_
         refine cw_ret ?_
         refine fn_then_ret (fn_block_ret (fn_then_ret (fn_then_ret (fn_block_ret (fn_then_ret ?_)))))
         refine fn_retn (vs := [_, _]) rfl ⟨rfl, rfl, trivial⟩ rfl ?_
         have e1 : (runeD s).2 = 1 := by unfold runeD; simp only; (repeat' split) <;> first | omega | (simp only; omega)
         exact ⟨by rw [e1, okD_no (by omega) e1]; rfl, H0.base⟩
        ·skip
         refine rgy (y_mov rfl rfl) rfl rfl rfl rfl ?_
         refine rgy (y_mov rfl rfl) rfl rfl rfl rfl ?_
         refine rgy (y_indexB (i := 1) rfl Tryd.underlying9 rfl rfl (rfl) (hB) (by omega)) rfl rfl rfl rfl ?_
         refine rgy (y_gtr rfl rfl rfl) rfl rfl rfl rfl ?_
         refine ry (y_pick rfl rfl rfl) rfl rfl ?_
         refine reg_nil ?_
         refine fn_next ?_
         refine cw_condd rfl (fun h63 => ?_) (fun h63 => ?_)
         ·skip
          refine cw_seq ?_
          refine cw_reg ?_
          refine ry (y_asg rfl rfl) rfl rfl ?_
          refine ry (y_asg rfl rfl) rfl rfl ?_
          refine reg_nil ?_
          refine fn_next ?_
          refine cw_ret ?_
          refine fn_then_ret (fn_block_ret (fn_then_ret (fn_then_ret (fn_block_ret (fn_then_ret ?_)))))
          refine fn_retn (vs := [_, _]) rfl ⟨rfl, rfl, trivial⟩ rfl ?_
          have e1 : (runeD s).2 = 1 := by unfold runeD; simp only; (repeat' split) <;> first | omega | (simp only; omega)
          exact ⟨by rw [e1, okD_no (by omega) e1]; rfl, H0.base⟩
         ·skip
          refine cw_skip ?_
          refine fn_next ?_
          refine cw_reg ?_
          refine ry (y_mov rfl rfl) rfl rfl ?_
          refine ry (y_mul rfl rfl rfl (wi (by omega))) rfl rfl ?_
          refine ry (y_mov rfl rfl) rfl rfl ?_
          refine ry (y_mov rfl rfl) rfl rfl ?_
          refine ry (y_indexB (i := 1) rfl Tryd.underlying9 rfl rfl (rfl) (hB) (by omega)) rfl rfl ?_
          refine ry (y_conv rfl Tryd.underlying5 Tryd.underlying3 rfl (wi (by omega))) rfl rfl ?_
          refine ry (y_add rfl rfl rfl (wi (by omega))) rfl rfl ?_
          refine ry (y_sub rfl rfl rfl (wi (by omega))) rfl rfl ?_
          refine ry (y_asg rfl rfl) rfl rfl ?_
          refine reg_nil ?_
          refine fn_block ?_
          refine fn_next ?_
          refine cw_reg ?_
          refine ry (y_mov rfl rfl) rfl rfl ?_
          refine ry (y_add rfl rfl rfl (wi (by omega))) rfl rfl ?_
          refine ry (y_asg rfl rfl) rfl rfl ?_
          refine reg_nil ?_
          refine fn_roundR ?_
          have b2 := hB _ (nth_mem (show 2 < s.length by omega))
          refine cw_seq ?_
          refine cw_seq ?_
          refine cw_reg ?_
          refine ry (y_mov rfl rfl) rfl rfl ?_
          refine ry (y_mov rfl rfl) rfl rfl ?_
          refine ry (y_lss rfl rfl rfl) rfl rfl ?_
          refine reg_nil ?_
          refine fn_next ?_
          refine cw_condt rfl ?_
          refine cw_skip ?_
          refine fn_next ?_
          refine cw_seq ?_
          refine cw_block ?_
          refine cw_seq ?_
          refine cw_seq ?_
          refine cw_reg ?_
          refine ry (y_mov rfl rfl) rfl rfl ?_
          refine ry (y_mov rfl rfl) rfl rfl ?_
          refine ry (y_indexB (i := 2) rfl Tryd.underlying9 rfl rfl (rfl) (hB) (by omega)) rfl rfl ?_
          refine ry (y_lss rfl rfl rfl) rfl rfl ?_
          refine ry (y_mov rfl rfl) rfl rfl ?_
          refine rg_splitd (d := 57) rfl (fun h64 => ?_) (fun h64 => ?_)
          ·skip
           refine rg_off rfl rfl rfl rfl rfl ?_
           refine rg_off rfl rfl rfl rfl rfl ?_
           refine rg_off rfl rfl rfl rfl rfl ?_
           refine rg_off rfl rfl rfl rfl rfl ?_
           refine ry (y_pick rfl rfl rfl) rfl rfl ?_
           refine reg_nil ?_
           refine fn_next ?_
           refine cw_condt rfl ?_
           refine cw_seq ?_
           refine cw_reg ?_
           refine ry (y_asg rfl rfl) rfl rfl ?_
           refine ry (y_asg rfl rfl) rfl rfl ?_
           refine reg_nil ?_
           refine fn_next ?_
           refine cw_ret ?_
           refine fn_then_ret (fn_block_ret (fn_then_ret (fn_then_ret (fn_block_ret (fn_then_ret ?_)))))
           refine fn_retn (vs := [_, _]) rfl ⟨rfl, rfl, trivial⟩ rfl ?_
           have e1 : (runeD s).2 = 1 := by unfold runeD; simp only; (repeat' split) <;> first | omega | (simp only; omega)
           exact ⟨by rw [e1, okD_no (by omega) e1]; rfl, H0.base⟩
          ·skip
           refine rgy (y_mov rfl rfl) rfl rfl rfl rfl ?_
           refine rgy (y_mov rfl rfl) rfl rfl rfl rfl ?_
           refine rgy (y_indexB (i := 2) rfl Tryd.underlying9 rfl rfl (rfl) (hB) (by omega)) rfl rfl rfl rfl ?_
           refine rgy (y_gtr rfl rfl rfl) rfl rfl rfl rfl ?_
           refine ry (y_pick rfl rfl rfl) rfl rfl ?_
           refine reg_nil ?_
           refine fn_next ?_
           refine cw_condd rfl (fun h65 => ?_) (fun h65 => ?_)
           ·skip
            refine cw_seq ?_
            refine cw_reg ?_
            refine ry (y_asg rfl rfl) rfl rfl ?_
            refine ry (y_asg rfl rfl) rfl rfl ?_
            refine reg_nil ?_
            refine fn_next ?_
            refine cw_ret ?_
            refine fn_then_ret (fn_block_ret (fn_then_ret (fn_then_ret (fn_block_ret (fn_then_ret ?_)))))
            refine fn_retn (vs := [_, _]) rfl ⟨rfl, rfl, trivial⟩ rfl ?_
            have e1 : (runeD s).2 = 1 := by unfold runeD; simp only; (repeat' split) <;> first | omega | (simp only; omega)
            exact ⟨by rw [e1, okD_no (by omega) e1]; rfl, H0.base⟩
           ·skip
            refine cw_skip ?_
            refine fn_next ?_
            refine cw_reg ?_
            refine ry (y_mov rfl rfl) rfl rfl ?_
            refine ry (y_mul rfl rfl rfl (wi (by omega))) rfl rfl ?_
            refine ry (y_mov rfl rfl) rfl rfl ?_
            refine ry (y_mov rfl rfl) rfl rfl ?_
            refine ry (y_indexB (i := 2) rfl Tryd.underlying9 rfl rfl (rfl) (hB) (by omega)) rfl rfl ?_
            refine ry (y_conv rfl Tryd.underlying5 Tryd.underlying3 rfl (wi (by omega))) rfl rfl ?_
            refine ry (y_add rfl rfl rfl (wi (by omega))) rfl rfl ?_
            refine ry (y_sub rfl rfl rfl (wi (by omega))) rfl rfl ?_
            refine ry (y_asg rfl rfl) rfl rfl ?_
            refine reg_nil ?_
            refine fn_block ?_
            refine fn_next ?_
            refine cw_reg ?_
            refine ry (y_mov rfl rfl) rfl rfl ?_
            refine ry (y_add rfl rfl rfl (wi (by omega))) rfl rfl ?_
            refine ry (y_asg rfl rfl) rfl rfl ?_
            refine reg_nil ?_
            refine fn_roundR ?_
            have b3 := hB _ (nth_mem (show 3 < s.length by omega))
            refine cw_seq ?_
            refine cw_seq ?_
            refine cw_reg ?_
            refine ry (y_mov rfl rfl) rfl rfl ?_
            refine ry (y_mov rfl rfl) rfl rfl ?_
            refine ry (y_lss rfl rfl rfl) rfl rfl ?_
            refine reg_nil ?_
            refine fn_next ?_
            refine cw_condt rfl ?_
            refine cw_skip ?_
            refine fn_next ?_
            refine cw_seq ?_
            refine cw_block ?_
            refine cw_seq ?_
            refine cw_seq ?_
            refine cw_reg ?_
            refine ry (y_mov rfl rfl) rfl rfl ?_
            refine ry (y_mov rfl rfl) rfl rfl ?_
            refine ry (y_indexB (i := 3) rfl Tryd.underlying9 rfl rfl (rfl) (hB) (by omega)) rfl rfl ?_
            refine ry (y_lss rfl rfl rfl) rfl rfl ?_
            refine ry (y_mov rfl rfl) rfl rfl ?_
            refine rg_splitd (d := 57) rfl (fun h66 => ?_) (fun h66 => ?_)
            ·skip
             refine rg_off rfl rfl rfl rfl rfl ?_
             refine rg_off rfl rfl rfl rfl rfl ?_
             refine rg_off rfl rfl rfl rfl rfl ?_
             refine rg_off rfl rfl rfl rfl rfl ?_
             refine ry (y_pick rfl rfl rfl) rfl rfl ?_
             refine reg_nil ?_
             refine fn_next ?_
             refine cw_condt rfl ?_
             refine cw_seq ?_
             refine cw_reg ?_
             refine ry (y_asg rfl rfl) rfl rfl ?_
             refine ry (y_asg rfl rfl) rfl rfl ?_
             refine reg_nil ?_
             refine fn_next ?_
             refine cw_ret ?_
             refine fn_then_ret (fn_block_ret (fn_then_ret (fn_then_ret (fn_block_ret (fn_then_ret ?_)))))
             refine fn_retn (vs := [_, _]) rfl ⟨rfl, rfl, trivial⟩ rfl ?_
             have e1 : (runeD s).2 = 1 := by unfold runeD; simp only; (repeat' split) <;> first | omega | (simp only; omega)
             exact ⟨by rw [e1, okD_no (by omega) e1]; rfl, H0.base⟩
            ·skip
             refine rgy (y_mov rfl rfl) rfl rfl rfl rfl ?_
             refine rgy (y_mov rfl rfl) rfl rfl rfl rfl ?_
             refine rgy (y_indexB (i := 3) rfl Tryd.underlying9 rfl rfl (rfl) (hB) (by omega)) rfl rfl rfl rfl ?_
             refine rgy (y_gtr rfl rfl rfl) rfl rfl rfl rfl ?_
             refine ry (y_pick rfl rfl rfl) rfl rfl ?_
             refine reg_nil ?_
             refine fn_next ?_
             refine cw_condd rfl (fun h67 => ?_) (fun h67 => ?_)
             ·skip
              refine cw_seq ?_
              refine cw_reg ?_
              refine ry (y_asg rfl rfl) rfl rfl ?_
              refine ry (y_asg rfl rfl) rfl rfl ?_
              refine reg_nil ?_
              refine fn_next ?_
              refine cw_ret ?_
              refine fn_then_ret (fn_block_ret (fn_then_ret (fn_then_ret (fn_block_ret (fn_then_ret ?_)))))
              refine fn_retn (vs := [_, _]) rfl ⟨rfl, rfl, trivial⟩ rfl ?_
              have e1 : (runeD s).2 = 1 := by unfold runeD; simp only; (repeat' split) <;> first | omega | (simp only; omega)
              exact ⟨by rw [e1, okD_no (by omega) e1]; rfl, H0.base⟩
             ·skip
              refine cw_skip ?_
              refine fn_next ?_
              refine cw_reg ?_
              refine ry (y_mov rfl rfl) rfl rfl ?_
              refine ry (y_mul rfl rfl rfl (wi (by omega))) rfl rfl ?_
              refine ry (y_mov rfl rfl) rfl rfl ?_
              refine ry (y_mov rfl rfl) rfl rfl ?_
              refine ry (y_indexB (i := 3) rfl Tryd.underlying9 rfl rfl (rfl) (hB) (by omega)) rfl rfl ?_
              refine ry (y_conv rfl Tryd.underlying5 Tryd.underlying3 rfl (wi (by omega))) rfl rfl ?_
              refine ry (y_add rfl rfl rfl (wi (by omega))) rfl rfl ?_
              refine ry (y_sub rfl rfl rfl (wi (by omega))) rfl rfl ?_
              refine ry (y_asg rfl rfl) rfl rfl ?_
              refine reg_nil ?_
              refine fn_block ?_
              refine fn_next ?_
              refine cw_reg ?_
              refine ry (y_mov rfl rfl) rfl rfl ?_
              refine ry (y_add rfl rfl rfl (wi (by omega))) rfl rfl ?_
              refine ry (y_asg rfl rfl) rfl rfl ?_
              refine reg_nil ?_
              refine fn_roundR ?_
              refine cw_seq ?_
              refine cw_seq ?_
              refine cw_reg ?_
              refine ry (y_mov rfl rfl) rfl rfl ?_
              refine ry (y_mov rfl rfl) rfl rfl ?_
              refine ry (y_lss rfl rfl rfl) rfl rfl ?_
              refine reg_nil ?_
              refine fn_next ?_
              refine cw_condf rfl ?_
              refine cw_exit ?_
              refine fn_then_exit (fn_then_exit (fn_block_exit ?_))
              refine fn_next ?_
              refine cw_seq ?_
              refine cw_seq ?_
              refine cw_reg ?_
              refine ry (y_mov rfl rfl) rfl rfl ?_
              refine ry (y_mov rfl rfl) rfl rfl ?_
              refine ry (y_lss rfl rfl rfl) rfl rfl ?_
              refine ry (y_mov rfl rfl) rfl rfl ?_
              refine rg_splitd (d := 74) rfl (fun h68 => ?_) (fun h68 => ?_)
              ·skip
               refine rg_off rfl rfl rfl rfl rfl ?_
               refine rg_off rfl rfl rfl rfl rfl ?_
               refine ry (y_pick rfl rfl rfl) rfl rfl ?_
               refine ry (y_mov rfl rfl) rfl rfl ?_
               refine rg_off rfl rfl rfl rfl rfl ?_
               refine rg_off rfl rfl rfl rfl rfl ?_
               refine rg_off rfl rfl rfl rfl rfl ?_
               refine rg_offu rfl rfl rfl rfl ?_
               refine rg_offu rfl rfl rfl rfl ?_
               refine rg_off rfl rfl rfl rfl rfl ?_
               refine ry (y_pick rfl rfl rfl) rfl rfl ?_
               refine reg_nil ?_
               refine fn_next ?_
               refine cw_condt rfl ?_
               refine cw_seq ?_
               refine cw_reg ?_
               refine ry (y_asg rfl rfl) rfl rfl ?_
               refine ry (y_asg rfl rfl) rfl rfl ?_
               refine reg_nil ?_
               refine fn_next ?_
               refine cw_ret ?_
               refine fn_then_ret ?_
               refine fn_retn (vs := [_, _]) rfl ⟨rfl, rfl, trivial⟩ rfl ?_
               have e1 : (runeD s).2 = 1 := by unfold runeD; simp only; (repeat' split) <;> first | omega | (simp only; omega)
               exact ⟨by rw [e1, okD_no (by omega) e1]; rfl, H0.base⟩
              ·skip
               refine rgy (y_mov rfl rfl) rfl rfl rfl rfl ?_
               refine rgy (y_gtr rfl rfl rfl) rfl rfl rfl rfl ?_
               refine ry (y_pick rfl rfl rfl) rfl rfl ?_
               refine ry (y_mov rfl rfl) rfl rfl ?_
               refine rg_splitd (d := 78) rfl (fun h69 => ?_) (fun h69 => ?_)
               ·skip
                refine rg_off rfl rfl rfl rfl rfl ?_
                refine rg_off rfl rfl rfl rfl rfl ?_
                refine rg_off rfl rfl rfl rfl rfl ?_
                refine rg_offu rfl rfl rfl rfl ?_
                refine rg_offu rfl rfl rfl rfl ?_
                refine rg_off rfl rfl rfl rfl rfl ?_
                refine ry (y_pick rfl rfl rfl) rfl rfl ?_
                refine reg_nil ?_
                refine fn_next ?_
                refine cw_condt rfl ?_
                refine cw_seq ?_
                refine cw_reg ?_
                refine ry (y_asg rfl rfl) rfl rfl ?_
                refine ry (y_asg rfl rfl) rfl rfl ?_
                refine reg_nil ?_
                refine fn_next ?_
                refine cw_ret ?_
                refine fn_then_ret ?_
                refine fn_retn (vs := [_, _]) rfl ⟨rfl, rfl, trivial⟩ rfl ?_
                have e1 : (runeD s).2 = 1 := by unfold runeD; simp only; (repeat' split) <;> first | omega | (simp only; omega)
                exact ⟨by rw [e1, okD_no (by omega) e1]; rfl, H0.base⟩
               ·skip
                refine rgy (y_mov rfl rfl) rfl rfl rfl rfl ?_
                refine rgy (y_geq rfl rfl rfl) rfl rfl rfl rfl ?_
                refine rgy (y_mov rfl rfl) rfl rfl rfl rfl ?_
                refine rg_splitd (d := 81) rfl (fun h70 => ?_) (fun h70 => ?_)
                ·skip
                 refine rgy (y_mov rfl rfl) rfl rfl rfl rfl ?_
                 refine rgy (y_lss rfl rfl rfl) rfl rfl rfl rfl ?_
                 refine rgy (y_pick rfl rfl rfl) rfl rfl rfl rfl ?_
                 refine ry (y_pick rfl rfl rfl) rfl rfl ?_
                 refine reg_nil ?_
                 refine fn_next ?_
                 refine cw_condd rfl (fun h71 => ?_) (fun h71 => ?_)
                 ·skip
                  refine cw_seq ?_
                  refine cw_reg ?_
                  refine ry (y_asg rfl rfl) rfl rfl ?_
                  refine ry (y_asg rfl rfl) rfl rfl ?_
                  refine reg_nil ?_
                  refine fn_next ?_
                  refine cw_ret ?_
                  refine fn_then_ret ?_
                  refine fn_retn (vs := [_, _]) rfl ⟨rfl, rfl, trivial⟩ rfl ?_
                  have e1 : (runeD s).2 = 1 := by unfold runeD; simp only; (repeat' split) <;> first | omega | (simp only; omega)
                  exact ⟨by rw [e1, okD_no (by omega) e1]; rfl, H0.base⟩
                 ·skip
                  refine cw_skip ?_
                  refine fn_next ?_
                  refine cw_seq ?_
                  refine cw_reg ?_
                  refine ry (y_mov rfl rfl) rfl rfl ?_
                  refine ry (y_asg rfl rfl) rfl rfl ?_
                  refine ry (y_asg rfl rfl) rfl rfl ?_
                  refine reg_nil ?_
                  refine fn_next ?_
                  refine cw_ret ?_
                  refine fn_retn (vs := [_, _]) rfl ⟨rfl, rfl, trivial⟩ rfl ?_
                  have e1 : (runeD s).2 = 4 := by unfold runeD; simp only; (repeat' split) <;> first | omega | (simp only; omega)
                  exact ⟨by rw [e1, okD_yes (.inr (by omega))]; rfl, H0.base⟩
                ·skip
                 refine rg_off rfl rfl rfl rfl rfl ?_
                 refine rg_off rfl rfl rfl rfl rfl ?_
                 refine rgy (y_pick rfl rfl rfl) rfl rfl rfl rfl ?_
                 refine ry (y_pick rfl rfl rfl) rfl rfl ?_
                 refine reg_nil ?_
                 refine fn_next ?_
                 refine cw_condf rfl ?_
                 refine cw_skip ?_
                 refine fn_next ?_
                 refine cw_seq ?_
                 refine cw_reg ?_
                 refine ry (y_mov rfl rfl) rfl rfl ?_
                 refine ry (y_asg rfl rfl) rfl rfl ?_
                 refine ry (y_asg rfl rfl) rfl rfl ?_
                 refine reg_nil ?_
                 refine fn_next ?_
                 refine cw_ret ?_
                 refine fn_retn (vs := [_, _]) rfl ⟨rfl, rfl, trivial⟩ rfl ?_
                 have e1 : (runeD s).2 = 4 := by unfold runeD; simp only; (repeat' split) <;> first | omega | (simp only; omega)
                 exact ⟨by rw [e1, okD_yes (.inr (by omega))]; rfl, H0.base⟩
      ·skip
       refine cw_skip ?_
       refine fn_next ?_
       refine cw_seq ?_
       refine cw_seq ?_
       refine cw_reg ?_
       refine ry (y_mov rfl rfl) rfl rfl ?_
       refine ry (y_eql rfl rfl rfl) rfl rfl ?_
       refine ry (y_mov rfl rfl) rfl rfl ?_
       refine rg_off rfl rfl rfl rfl rfl ?_
       refine rg_off rfl rfl rfl rfl rfl ?_
       refine rg_off rfl rfl rfl rfl rfl ?_
       refine rg_off rfl rfl rfl rfl rfl ?_
       refine ry (y_pick rfl rfl rfl) rfl rfl ?_
       refine reg_nil ?_
       refine fn_next ?_
       refine cw_condt rfl ?_
       refine cw_seq ?_
       refine cw_reg ?_
       refine ry (y_asg rfl rfl) rfl rfl ?_
       refine ry (y_asg rfl rfl) rfl rfl ?_
       refine reg_nil ?_
       refine fn_next ?_
       refine cw_ret ?_
       refine fn_then_ret ?_
       refine fn_retn (vs := [_, _]) rfl ⟨rfl, rfl, trivial⟩ rfl ?_
       have e1 : (runeD s).2 = 1 := by unfold runeD; simp only; (repeat' split) <;> first | omega | (simp only; omega)
       exact ⟨by rw [e1, okD_no (by omega) e1]; rfl, H0.base⟩
     ·skip
      refine rg_off rfl rfl rfl rfl rfl ?_
      refine rg_off rfl rfl rfl rfl rfl ?_
      refine ry (y_pick rfl rfl rfl) rfl rfl ?_
      refine reg_nil ?_
      refine fn_next ?_
      refine cw_condf rfl ?_
      refine cw_skip ?_
      refine fn_next ?_
      refine cw_seq ?_
      refine cw_seq ?_
      refine cw_reg ?_
      refine ry (y_mov rfl rfl) rfl rfl ?_
      refine ry (y_eql rfl rfl rfl) rfl rfl ?_
      refine ry (y_mov rfl rfl) rfl rfl ?_
      refine rg_off rfl rfl rfl rfl rfl ?_
      refine rg_off rfl rfl rfl rfl rfl ?_
      refine rg_off rfl rfl rfl rfl rfl ?_
      refine rg_off rfl rfl rfl rfl rfl ?_
      refine ry (y_pick rfl rfl rfl) rfl rfl ?_
      refine reg_nil ?_
      refine fn_next ?_
      refine cw_condt rfl ?_
      refine cw_seq ?_
      refine cw_reg ?_
      refine ry (y_asg rfl rfl) rfl rfl ?_
      refine ry (y_asg rfl rfl) rfl rfl ?_
      refine reg_nil ?_
      refine fn_next ?_
      refine cw_ret ?_
      refine fn_then_ret ?_
      refine fn_retn (vs := [_, _]) rfl ⟨rfl, rfl, trivial⟩ rfl ?_
      have e1 : (runeD s).2 = 1 := by unfold runeD; simp only; (repeat' split) <;> first | omega | (simp only; omega)
      exact ⟨by rw [e1, okD_no (by omega) e1]; rfl, H0.base⟩
   ·skip
    refine rg_off rfl rfl rfl rfl rfl ?_
    refine rg_off rfl rfl rfl rfl rfl ?_
    refine ry (y_pick rfl rfl rfl) rfl rfl ?_
    refine reg_nil ?_
    refine fn_next ?_
    refine cw_condf rfl ?_
    refine cw_seq ?_
    refine cw_reg ?_
    refine ry (y_mov rfl rfl) rfl rfl ?_
    refine ry (y_geq rfl rfl rfl) rfl rfl ?_
    refine ry (y_mov rfl rfl) rfl rfl ?_
    refine rg_splitd (d := 33) rfl (fun h72 => ?_) (fun h72 => ?_)
    ·skip
     refine rgy (y_mov rfl rfl) rfl rfl rfl rfl ?_
     refine rgy (y_lss rfl rfl rfl) rfl rfl rfl rfl ?_
     refine ry (y_pick rfl rfl rfl) rfl rfl ?_
     refine reg_nil ?_
     refine fn_next ?_
     refine cw_condd rfl (fun h73 => ?_) (fun h73 => ?_)
     ·skip
      refine cw_reg ?_
      refine ry (y_mov rfl rfl) rfl rfl ?_
      refine ry (y_conv rfl Tryd.underlying5 Tryd.underlying3 rfl (wi (by omega))) rfl rfl ?_
      refine ry (y_sub rfl rfl rfl (wi (by omega))) rfl rfl ?_
      refine ry (y_asg rfl rfl) rfl rfl ?_
      refine ry (y_asg rfl rfl) rfl rfl ?_
      refine ry (y_asg rfl rfl) rfl rfl ?_
      refine reg_nil ?_
      refine fn_next ?_
      refine cw_seq ?_
      refine cw_seq ?_
      refine cw_reg ?_
      refine ry (y_mov rfl rfl) rfl rfl ?_
      refine ry (y_eql rfl rfl rfl) rfl rfl ?_
      refine ry (y_mov rfl rfl) rfl rfl ?_
      refine rgy (y_mov rfl rfl) rfl rfl rfl rfl ?_
      refine rgy (y_mov rfl rfl) rfl rfl rfl rfl ?_
      refine rgy (y_lenB rfl Tryd.underlying9 rfl) rfl rfl rfl rfl ?_
      refine rgy (y_gtr rfl rfl rfl) rfl rfl rfl rfl ?_
      refine ry (y_pick rfl rfl rfl) rfl rfl ?_
      refine reg_nil ?_
      refine fn_next ?_
      refine cw_condd rfl (fun h74 => ?_) (fun h74 => ?_)
      ·skip
       refine cw_seq ?_
       refine cw_reg ?_
       refine ry (y_asg rfl rfl) rfl rfl ?_
       refine ry (y_asg rfl rfl) rfl rfl ?_
       refine reg_nil ?_
       refine fn_next ?_
       refine cw_ret ?_
       refine fn_then_ret ?_
       refine fn_retn (vs := [_, _]) rfl ⟨rfl, rfl, trivial⟩ rfl ?_
       have e1 : (runeD s).2 = 1 := by unfold runeD; simp only; (repeat' split) <;> first | omega | (simp only; omega)
       exact ⟨by rw [e1, okD_no (by omega) e1]; rfl, H0.base⟩
      ·skip
       refine cw_skip ?_
       refine fn_next ?_
       refine cw_seq ?_
       refine cw_seq ?_
       refine cw_reg ?_
       refine ry (y_asg rfl rfl) rfl rfl ?_
       refine reg_nil ?_
       refine fn_next ?_
       refine cw_block ?_
       refine cw_loopR 4 ?_
       have b1 := hB _ (nth_mem (show 1 < s.length by omega))
       refine cw_seq ?_
       refine cw_seq ?_
       refine cw_reg ?_
       refine ry (y_mov rfl rfl) rfl rfl ?_
       refine ry (y_mov rfl rfl) rfl rfl ?_
       refine ry (y_lss rfl rfl rfl) rfl rfl ?_
       refine reg_nil ?_
       refine fn_next ?_
       refine cw_condt rfl ?_
       refine cw_skip ?_
       refine fn_next ?_
       refine cw_seq ?_
       refine cw_block ?_
       refine cw_seq ?_
       refine cw_seq ?_
       refine cw_reg ?_
       refine ry (y_mov rfl rfl) rfl rfl ?_
       refine ry (y_mov rfl rfl) rfl rfl ?_
       refine ry (y_indexB (i := 1) rfl Tryd.underlying9 rfl rfl (rfl) (hB) (by omega)) rfl rfl ?_
       refine ry (y_lss rfl rfl rfl) rfl rfl ?_
       refine ry (y_mov rfl rfl) rfl rfl ?_
       refine rg_splitd (d := 57) rfl (fun h75 => ?_) (fun h75 => ?_)
       ·skip
        refine rg_off rfl rfl rfl rfl rfl ?_
        refine rg_off rfl rfl rfl rfl rfl ?_
        refine rg_off rfl rfl rfl rfl rfl ?_
        refine rg_off rfl rfl rfl rfl rfl ?_
        refine ry (y_pick rfl rfl rfl) rfl rfl ?_
        refine reg_nil ?_
        refine fn_next ?_
        refine cw_condt rfl ?_
        refine cw_seq ?_
        refine cw_reg ?_
        refine ry (y_asg rfl rfl) rfl rfl ?_
        refine ry (y_asg rfl rfl) rfl rfl ?_
        refine reg_nil ?_
        refine fn_next ?_
        refine cw_ret ?_
        refine fn_then_ret (fn_block_ret (fn_then_ret (fn_then_ret (fn_block_ret (fn_then_ret ?_)))))
        refine fn_retn (vs := [_, _]) rfl ⟨rfl, rfl, trivial⟩ rfl ?_
        have e1 : (runeD s).2 = 1 := by unfold runeD; simp only; (repeat' split) <;> first | omega | (simp only; omega)
        exact ⟨by rw [e1, okD_no (by omega) e1]; rfl, H0.base⟩
       ·skip
        refine rgy (y_mov rfl rfl) rfl rfl rfl rfl ?_
        refine rgy (y_mov rfl rfl) rfl rfl rfl rfl ?_
        refine rgy (y_indexB (i := 1) rfl Tryd.underlying9 rfl rfl (rfl) (hB) (by omega)) rfl rfl rfl rfl ?_
        refine rgy (y_gtr rfl rfl rfl) rfl rfl rfl rfl ?_
        refine ry (y_pick rfl rfl rfl) rfl rfl ?_
        refine reg_nil ?_
        refine fn_next ?_
        refine cw_condd rfl (fun h76 => ?_) (fun h76 => ?_)
        ·skip
         refine cw_seq ?_
         refine cw_reg ?_
         refine ry (y_asg rfl rfl) rfl rfl ?_
         refine ry (y_asg rfl rfl) rfl rfl ?_
         refine reg_nil ?_
         refine fn_next ?_
         refine cw_ret ?_
         refine fn_then_ret (fn_block_ret (fn_then_ret (fn_then_ret (fn_block_ret (fn_then_ret ?_)))))
         refine fn_retn (vs := [_, _]) rfl ⟨rfl, rfl, trivial⟩ rfl ?_
         have e1 : (runeD s).2 = 1 := by unfold runeD; simp only; (repeat' split) <;> first | omega | (simp only; omega)
         exact ⟨by rw [e1, okD_no (by omega) e1]; rfl, H0.base⟩
        ·skip
         refine cw_skip ?_
         refine fn_next ?_
         refine cw_reg ?_
         refine ry (y_mov rfl rfl) rfl rfl ?_
         refine ry (y_mul rfl rfl rfl (wi (by omega))) rfl rfl ?_
         refine ry (y_mov rfl rfl) rfl rfl ?_
         refine ry (y_mov rfl rfl) rfl rfl ?_
         refine ry (y_indexB (i := 1) rfl Tryd.underlying9 rfl rfl (rfl) (hB) (by omega)) rfl rfl ?_
         refine ry (y_conv rfl Tryd.underlying5 Tryd.underlying3 rfl (wi (by omega))) rfl rfl ?_
         refine ry (y_add rfl rfl rfl (wi (by omega))) rfl rfl ?_
         refine ry (y_sub rfl rfl rfl (wi (by omega))) rfl rfl ?_
         refine ry (y_asg rfl rfl) rfl rfl ?_
         refine reg_nil ?_
         refine fn_block ?_
         refine fn_next ?_
         refine cw_reg ?_
         refine ry (y_mov rfl rfl) rfl rfl ?_
         refine ry (y_add rfl rfl rfl (wi (by omega))) rfl rfl ?_
         refine ry (y_asg rfl rfl) rfl rfl ?_
         refine reg_nil ?_
         refine fn_roundR ?_
         have b2 := hB _ (nth_mem (show 2 < s.length by omega))
         refine cw_seq ?_
         refine cw_seq ?_
         refine cw_reg ?_
         refine ry (y_mov rfl rfl) rfl rfl ?_
         refine ry (y_mov rfl rfl) rfl rfl ?_
         refine ry (y_lss rfl rfl rfl) rfl rfl ?_
         refine reg_nil ?_
         refine fn_next ?_
         refine cw_condt rfl ?_
         refine cw_skip ?_
         refine fn_next ?_
         refine cw_seq ?_
         refine cw_block ?_
         refine cw_seq ?_
         refine cw_seq ?_
         refine cw_reg ?_
         refine ry (y_mov rfl rfl) rfl rfl ?_
         refine ry (y_mov rfl rfl) rfl rfl ?_
         refine ry (y_indexB (i := 2) rfl Tryd.underlying9 rfl rfl (rfl) (hB) (by omega)) rfl rfl ?_
         refine ry (y_lss rfl rfl rfl) rfl rfl ?_
         refine ry (y_mov rfl rfl) rfl rfl ?_
         refine rg_splitd (d := 57) rfl (fun h77 => ?_) (fun h77 => ?_)
         ·skip
          refine rg_off rfl rfl rfl rfl rfl ?_
          refine rg_off rfl rfl rfl rfl rfl ?_
          refine rg_off rfl rfl rfl rfl rfl ?_
          refine rg_off rfl rfl rfl rfl rfl ?_
          refine ry (y_pick rfl rfl rfl) rfl rfl ?_
          refine reg_nil ?_
          refine fn_next ?_
          refine cw_condt rfl ?_
          refine cw_seq ?_
          refine cw_reg ?_
          refine ry (y_asg rfl rfl) rfl rfl ?_
          refine ry (y_asg rfl rfl) rfl rfl ?_
          refine reg_nil ?_
          refine fn_next ?_
          refine cw_ret ?_
          refine fn_then_ret (fn_block_ret (fn_then_ret (fn_then_ret (fn_block_ret (fn_then_ret ?_)))))
          refine fn_retn (vs := [_, _]) rfl ⟨rfl, rfl, trivial⟩ rfl ?_
          have e1 : (runeD s).2 = 1 := by unfold runeD; simp only; (repeat' split) <;> first | omega | (simp only; omega)
          exact ⟨by rw [e1, okD_no (by omega) e1]; rfl, H0.base⟩
         ·skip
          refine rgy (y_mov rfl rfl) rfl rfl rfl rfl ?_
          refine rgy (y_mov rfl rfl) rfl rfl rfl rfl ?_
          refine rgy (y_indexB (i := 2) rfl Tryd.underlying9 rfl rfl (rfl) (hB) (by omega)) rfl rfl rfl rfl ?_
          refine rgy (y_gtr rfl rfl rfl) rfl rfl rfl rfl ?_
          refine ry (y_pick rfl rfl rfl) rfl rfl ?_
          refine reg_nil ?_
          refine fn_next ?_
          refine cw_condd rfl (fun h78 => ?_) (fun h78 => ?_)
          ·skip
           refine cw_seq ?_
           refine cw_reg ?_
           refine ry (y_asg rfl rfl) rfl rfl ?_
           refine ry (y_asg rfl rfl) rfl rfl ?_
           refine reg_nil ?_
           refine fn_next ?_
           refine cw_ret ?_
           refine fn_then_ret (fn_block_ret (fn_then_ret (fn_then_ret (fn_block_ret (fn_then_ret ?_)))))
           refine fn_retn (vs := [_, _]) rfl ⟨rfl, rfl, trivial⟩ rfl ?_
           have e1 : (runeD s).2 = 1 := by unfold runeD; simp only; (repeat' split) <;> first | omega | (simp only; omega)
           exact ⟨by rw [e1, okD_no (by omega) e1]; rfl, H0.base⟩
          ·skip
           refine cw_skip ?_
           refine fn_next ?_
           refine cw_reg ?_
           refine ry (y_mov rfl rfl) rfl rfl ?_
           refine ry (y_mul rfl rfl rfl (wi (by omega))) rfl rfl ?_
           refine ry (y_mov rfl rfl) rfl rfl ?_
           refine ry (y_mov rfl rfl) rfl rfl ?_
           refine ry (y_indexB (i := 2) rfl Tryd.underlying9 rfl rfl (rfl) (hB) (by omega)) rfl rfl ?_
           refine ry (y_conv rfl Tryd.underlying5 Tryd.underlying3 rfl (wi (by omega))) rfl rfl ?_
           refine ry (y_add rfl rfl rfl (wi (by omega))) rfl rfl ?_
           refine ry (y_sub rfl rfl rfl (wi (by omega))) rfl rfl ?_
           refine ry (y_asg rfl rfl) rfl rfl ?_
           refine reg_nil ?_
           refine fn_block ?_
           refine fn_next ?_
           refine cw_reg ?_
           refine ry (y_mov rfl rfl) rfl rfl ?_
           refine ry (y_add rfl rfl rfl (wi (by omega))) rfl rfl ?_
           refine ry (y_asg rfl rfl) rfl rfl ?_
           refine reg_nil ?_
           refine fn_roundR ?_
           have b3 := hB _ (nth_mem (show 3 < s.length by omega))
           refine cw_seq ?_
           refine cw_seq ?_
           refine cw_reg ?_
           refine ry (y_mov rfl rfl) rfl rfl ?_
           refine ry (y_mov rfl rfl) rfl rfl ?_
           refine ry (y_lss rfl rfl rfl) rfl rfl ?_
           refine reg_nil ?_
           refine fn_next ?_
           refine cw_condt rfl ?_
           refine cw_skip ?_
           refine fn_next ?_
           refine cw_seq ?_
           refine cw_block ?_
           refine cw_seq ?_
           refine cw_seq ?_
           refine cw_reg ?_
           refine ry (y_mov rfl rfl) rfl rfl ?_
           refine ry (y_mov rfl rfl) rfl rfl ?_
           refine ry (y_indexB (i := 3) rfl Tryd.underlying9 rfl rfl (rfl) (hB) (by omega)) rfl rfl ?_
           refine ry (y_lss rfl rfl rfl) rfl rfl ?_
           refine ry (y_mov rfl rfl) rfl rfl ?_
           refine rg_splitd (d := 57) rfl (fun h79 => ?_) (fun h79 => ?_)
           ·skip
            refine rg_off rfl rfl rfl rfl rfl ?_
            refine rg_off rfl rfl rfl rfl rfl ?_
            refine rg_off rfl rfl rfl rfl rfl ?_
            refine rg_off rfl rfl rfl rfl rfl ?_
            refine ry (y_pick rfl rfl rfl) rfl rfl ?_
            refine reg_nil ?_
            refine fn_next ?_
            refine cw_condt rfl ?_
            refine cw_seq ?_
            refine cw_reg ?_
            refine ry (y_asg rfl rfl) rfl rfl ?_
            refine ry (y_asg rfl rfl) rfl rfl ?_
            refine reg_nil ?_
            refine fn_next ?_
            refine cw_ret ?_
            refine fn_then_ret (fn_block_ret (fn_then_ret (fn_then_ret (fn_block_ret (fn_then_ret ?_)))))
            refine fn_retn (vs := [_, _]) rfl ⟨rfl, rfl, trivial⟩ rfl ?_
            have e1 : (runeD s).2 = 1 := by unfold runeD; simp only; (repeat' split) <;> first | omega | (simp only; omega)
            exact ⟨by rw [e1, okD_no (by omega) e1]; rfl, H0.base⟩
           ·skip
            refine rgy (y_mov rfl rfl) rfl rfl rfl rfl ?_
            refine rgy (y_mov rfl rfl) rfl rfl rfl rfl ?_
            refine rgy (y_indexB (i := 3) rfl Tryd.underlying9 rfl rfl (rfl) (hB) (by omega)) rfl rfl rfl rfl ?_
            refine rgy (y_gtr rfl rfl rfl) rfl rfl rfl rfl ?_
            refine ry (y_pick rfl rfl rfl) rfl rfl ?_
            refine reg_nil ?_
            refine fn_next ?_
            refine cw_condd rfl (fun h80 => ?_) (fun h80 => ?_)
            ·skip
             refine cw_seq ?_
             refine cw_reg ?_
             refine ry (y_asg rfl rfl) rfl rfl ?_
             refine ry (y_asg rfl rfl) rfl rfl ?_
             refine reg_nil ?_
             refine fn_next ?_
             refine cw_ret ?_
             refine fn_then_ret (fn_block_ret (fn_then_ret (fn_then_ret (fn_block_ret (fn_then_ret ?_)))))
             refine fn_retn (vs := [_, _]) rfl ⟨rfl, rfl, trivial⟩ rfl ?_
             have e1 : (runeD s).2 = 1 := by unfold runeD; simp only; (repeat' split) <;> first | omega | (simp only; omega)
             exact ⟨by rw [e1, okD_no (by omega) e1]; rfl, H0.base⟩
            ·skip
             refine cw_skip ?_
             refine fn_next ?_
             refine cw_reg ?_
             refine ry (y_mov rfl rfl) rfl rfl ?_
             refine ry (y_mul rfl rfl rfl (wi (by omega))) rfl rfl ?_
             refine ry (y_mov rfl rfl) rfl rfl ?_
             refine ry (y_mov rfl rfl) rfl rfl ?_
             refine ry (y_indexB (i := 3) rfl Tryd.underlying9 rfl rfl (rfl) (hB) (by omega)) rfl rfl ?_
             refine ry (y_conv rfl Tryd.underlying5 Tryd.underlying3 rfl (wi (by omega))) rfl rfl ?_
             refine ry (y_add rfl rfl rfl (wi (by omega))) rfl rfl ?_
             refine ry (y_sub rfl rfl rfl (wi (by omega))) rfl rfl ?_
             refine ry (y_asg rfl rfl) rfl rfl ?_
             refine reg_nil ?_
             refine fn_block ?_
             refine fn_next ?_
             refine cw_reg ?_
             refine ry (y_mov rfl rfl) rfl rfl ?_
             refine ry (y_add rfl rfl rfl (wi (by omega))) rfl rfl ?_
             refine ry (y_asg rfl rfl) rfl rfl ?_
             refine reg_nil ?_
             refine fn_roundR ?_
             refine cw_seq ?_
             refine cw_seq ?_
             refine cw_reg ?_
             refine ry (y_mov rfl rfl) rfl rfl ?_
             refine ry (y_mov rfl rfl) rfl rfl ?_
             refine ry (y_lss rfl rfl rfl) rfl rfl ?_
             refine reg_nil ?_
             refine fn_next ?_
             refine cw_condf rfl ?_
             refine cw_exit ?_
             refine fn_then_exit (fn_then_exit (fn_block_exit ?_))
             refine fn_next ?_
             refine cw_seq ?_
             refine cw_seq ?_
             refine cw_reg ?_
             refine ry (y_mov rfl rfl) rfl rfl ?_
             refine ry (y_mov rfl rfl) rfl rfl ?_
             refine ry (y_lss rfl rfl rfl) rfl rfl ?_
             refine ry (y_mov rfl rfl) rfl rfl ?_
             refine rg_splitd (d := 74) rfl (fun h81 => ?_) (fun h81 => ?_)
             ·skip
              refine rg_off rfl rfl rfl rfl rfl ?_
              refine rg_off rfl rfl rfl rfl rfl ?_
              refine ry (y_pick rfl rfl rfl) rfl rfl ?_
              refine ry (y_mov rfl rfl) rfl rfl ?_
              refine rg_off rfl rfl rfl rfl rfl ?_
              refine rg_off rfl rfl rfl rfl rfl ?_
              refine rg_off rfl rfl rfl rfl rfl ?_
              refine rg_offu rfl rfl rfl rfl ?_
              refine rg_offu rfl rfl rfl rfl ?_
              refine rg_off rfl rfl rfl rfl rfl ?_
              refine ry (y_pick rfl rfl rfl) rfl rfl ?_
              refine reg_nil ?_
              refine fn_next ?_
              refine cw_condt rfl ?_
              refine cw_seq ?_
              refine cw_reg ?_
              refine ry (y_asg rfl rfl) rfl rfl ?_
              refine ry (y_asg rfl rfl) rfl rfl ?_
              refine reg_nil ?_
              refine fn_next ?_
              refine cw_ret ?_
              refine fn_then_ret ?_
              refine fn_retn (vs := [_, _]) rfl ⟨rfl, rfl, trivial⟩ rfl ?_
              have e1 : (runeD s).2 = 1 := by unfold runeD; simp only; (repeat' split) <;> first | omega | (simp only; omega)
              exact ⟨by rw [e1, okD_no (by omega) e1]; rfl, H0.base⟩
             ·skip
              refine rgy (y_mov rfl rfl) rfl rfl rfl rfl ?_
              refine rgy (y_gtr rfl rfl rfl) rfl rfl rfl rfl ?_
              refine ry (y_pick rfl rfl rfl) rfl rfl ?_
              refine ry (y_mov rfl rfl) rfl rfl ?_
              refine rg_splitd (d := 78) rfl (fun h82 => ?_) (fun h82 => ?_)
              ·skip
               refine rg_off rfl rfl rfl rfl rfl ?_
               refine rg_off rfl rfl rfl rfl rfl ?_
               refine rg_off rfl rfl rfl rfl rfl ?_
               refine rg_offu rfl rfl rfl rfl ?_
               refine rg_offu rfl rfl rfl rfl ?_
               refine rg_off rfl rfl rfl rfl rfl ?_
               refine ry (y_pick rfl rfl rfl) rfl rfl ?_
               refine reg_nil ?_
               refine fn_next ?_
               refine cw_condt rfl ?_
               refine cw_seq ?_
               refine cw_reg ?_
               refine ry (y_asg rfl rfl) rfl rfl ?_
               refine ry (y_asg rfl rfl) rfl rfl ?_
               refine reg_nil ?_
               refine fn_next ?_
               refine cw_ret ?_
               refine fn_then_ret ?_
               refine fn_retn (vs := [_, _]) rfl ⟨rfl, rfl, trivial⟩ rfl ?_
               have e1 : (runeD s).2 = 1 := by unfold runeD; simp only; (repeat' split) <;> first | omega | (simp only; omega)
               exact ⟨by rw [e1, okD_no (by omega) e1]; rfl, H0.base⟩
              ·skip
               refine rgy (y_mov rfl rfl) rfl rfl rfl rfl ?_
               refine rgy (y_geq rfl rfl rfl) rfl rfl rfl rfl ?_
               refine rgy (y_mov rfl rfl) rfl rfl rfl rfl ?_
               refine rg_splitd (d := 81) rfl (fun h83 => ?_) (fun h83 => ?_)
               ·skip
                refine rgy (y_mov rfl rfl) rfl rfl rfl rfl ?_
                refine rgy (y_lss rfl rfl rfl) rfl rfl rfl rfl ?_
                refine rgy (y_pick rfl rfl rfl) rfl rfl rfl rfl ?_
                refine ry (y_pick rfl rfl rfl) rfl rfl ?_
                refine reg_nil ?_
                refine fn_next ?_
                refine cw_condd rfl (fun h84 => ?_) (fun h84 => ?_)
                ·skip
                 refine cw_seq ?_
                 refine cw_reg ?_
                 refine ry (y_asg rfl rfl) rfl rfl ?_
                 refine ry (y_asg rfl rfl) rfl rfl ?_
                 refine reg_nil ?_
                 refine fn_next ?_
                 refine cw_ret ?_
                 refine fn_then_ret ?_
                 refine fn_retn (vs := [_, _]) rfl ⟨rfl, rfl, trivial⟩ rfl ?_
                 have e1 : (runeD s).2 = 1 := by unfold runeD; simp only; (repeat' split) <;> first | omega | (simp only; omega)
                 exact ⟨by rw [e1, okD_no (by omega) e1]; rfl, H0.base⟩
                ·skip
                 refine cw_skip ?_
                 refine fn_next ?_
                 refine cw_seq ?_
                 refine cw_reg ?_
                 refine ry (y_mov rfl rfl) rfl rfl ?_
                 refine ry (y_asg rfl rfl) rfl rfl ?_
                 refine ry (y_asg rfl rfl) rfl rfl ?_
                 refine reg_nil ?_
                 refine fn_next ?_
                 refine cw_ret ?_
                 refine fn_retn (vs := [_, _]) rfl ⟨rfl, rfl, trivial⟩ rfl ?_
                 have e1 : (runeD s).2 = 4 := by unfold runeD; simp only; (repeat' split) <;> first | omega | (simp only; omega)
                 exact ⟨by rw [e1, okD_yes (.inr (by omega))]; rfl, H0.base⟩
               ·skip
                refine rg_off rfl rfl rfl rfl rfl ?_
                refine rg_off rfl rfl rfl rfl rfl ?_
                refine rgy (y_pick rfl rfl rfl) rfl rfl rfl rfl ?_
                refine ry (y_pick rfl rfl rfl) rfl rfl ?_
                refine reg_nil ?_
                refine fn_next ?_
                refine cw_condf rfl ?_
                refine cw_skip ?_
                refine fn_next ?_
                refine cw_seq ?_
                refine cw_reg ?_
                refine ry (y_mov rfl rfl) rfl rfl ?_
                refine ry (y_asg rfl rfl) rfl rfl ?_
                refine ry (y_asg rfl rfl) rfl rfl ?_
                refine reg_nil ?_
                refine fn_next ?_
                refine cw_ret ?_
                refine fn_retn (vs := [_, _]) rfl ⟨rfl, rfl, trivial⟩ rfl ?_
                have e1 : (runeD s).2 = 4 := by unfold runeD; simp only; (repeat' split) <;> first | omega | (simp only; omega)
                exact ⟨by rw [e1, okD_yes (.inr (by omega))]; rfl, H0.base⟩
     ·skip
      refine cw_skip ?_
      refine fn_next ?_
      refine cw_seq ?_
      refine cw_seq ?_
      refine cw_reg ?_
      refine ry (y_mov rfl rfl) rfl rfl ?_
      refine ry (y_eql rfl rfl rfl) rfl rfl ?_
      refine ry (y_mov rfl rfl) rfl rfl ?_
      refine rg_off rfl rfl rfl rfl rfl ?_
      refine rg_off rfl rfl rfl rfl rfl ?_
      refine rg_off rfl rfl rfl rfl rfl ?_
      refine rg_off rfl rfl rfl rfl rfl ?_
      refine ry (y_pick rfl rfl rfl) rfl rfl ?_
      refine reg_nil ?_
      refine fn_next ?_
      refine cw_condt rfl ?_
      refine cw_seq ?_
      refine cw_reg ?_
      refine ry (y_asg rfl rfl) rfl rfl ?_
      refine ry (y_asg rfl rfl) rfl rfl ?_
      refine reg_nil ?_
      refine fn_next ?_
      refine cw_ret ?_
      refine fn_then_ret ?_
      refine fn_retn (vs := [_, _]) rfl ⟨rfl, rfl, trivial⟩ rfl ?_
      have e1 : (runeD s).2 = 1 := by unfold runeD; simp only; (repeat' split) <;> first | omega | (simp only; omega)
      exact ⟨by rw [e1, okD_no (by omega) e1]; rfl, H0.base⟩
    ·skip
     refine rg_off rfl rfl rfl rfl rfl ?_
     refine rg_off rfl rfl rfl rfl rfl ?_
     refine ry (y_pick rfl rfl rfl) rfl rfl ?_
     refine reg_nil ?_
     refine fn_next ?_
     refine cw_condf rfl ?_
     refine cw_skip ?_
     refine fn_next ?_
     refine cw_seq ?_
     refine cw_seq ?_
     refine cw_reg ?_
     refine ry (y_mov rfl rfl) rfl rfl ?_
     refine ry (y_eql rfl rfl rfl) rfl rfl ?_
     refine ry (y_mov rfl rfl) rfl rfl ?_
     refine rg_off rfl rfl rfl rfl rfl ?_
     refine rg_off rfl rfl rfl rfl rfl ?_
     refine rg_off rfl rfl rfl rfl rfl ?_
     refine rg_off rfl rfl rfl rfl rfl ?_
     refine ry (y_pick rfl rfl rfl) rfl rfl ?_
     refine reg_nil ?_
     refine fn_next ?_
     refine cw_condt rfl ?_
     refine cw_seq ?_
     refine cw_reg ?_
     refine ry (y_asg rfl rfl) rfl rfl ?_
     refine ry (y_asg rfl rfl) rfl rfl ?_
     refine reg_nil ?_
     refine fn_next ?_
     refine cw_ret ?_
     refine fn_then_ret ?_
     refine fn_retn (vs := [_, _]) rfl ⟨rfl, rfl, trivial⟩ rfl ?_
     have e1 : (runeD s).2 = 1 := by unfold runeD; simp only; (repeat' split) <;> first | omega | (simp only; omega)
     exact ⟨by rw [e1, okD_no (by omega) e1]; rfl, H0.base⟩

set_option maxRecDepth 100000 in
set_option maxHeartbeats 1000000 in
theorem refRunes (s : List Int) (w : World) (hB : Byt s) (hsl : s.length ≤ 1000000) :
    Ret Tryd.prog 21 [.string (bs s)] w (fun v w' => ∃ A c, v = .slice A (rcs s).length c ∧ HS w w' [.row A (rcs s).length c (strs (rcs s)) 9 1]) := by
 refine ret_enter Tryd.func21 rfl rfl rfl ?_
 have H0 := HS.start w
 refine cw_seq ?_
 refine cw_reg ?_
 refine ry (y_asg rfl rfl) rfl rfl ?_
 refine reg_nil ?_
 refine fn_next ?_
 refine cw_seq ?_
 refine cw_reg ?_
 refine reg_op (op_lit (parts := []) (vs := []) (cs := []) H0 rfl Tryd.underlying52 kfref34_1 rfl trivial rfl rfl) rfl rfl ?_
 rintro _ w2 ⟨b1, rfl, H3⟩
 have H4 := H3.asrow (m := 0) (size := 1) rfl (by decide)
 refine ry (y_asg rfl rfl) rfl rfl ?_
 refine reg_nil ?_
 refine fn_next ?_
 refine cw_seq ?_
 refine cw_block ?_
 refine cw_loopJ [0, 3, 4, 5, 7, 8, 9, 10, 11, 12, 13, 14, 15, 16, 17, 18, 19, 20, 21, 22, 23] (fun M wl ml => ∃ (p c2 : Nat) (acc : List (List Int)) (A1 : Option Addr), M = [(0, .string (bs (s.drop p))), (3, .slice A1 acc.length c2)] ∧ HS w wl [Ob.row A1 acc.length c2 (strs (acc)) 9 1] ∧ (p ≤ s.length) ∧ (acc.length ≤ p) ∧ (rcs s = acc ++ rcs (s.drop p)) ∧ ml = s.length + 1 - p) ⟨0, 0, [], _, rfl, H4, Nat.zero_le _, Nat.zero_le _, rfl, rfl⟩ ⟨rfl, rfl, trivial⟩ ?_
 rintro M w5 m7 ⟨p, c2, acc, A1, rfl, H6, hps, hac, hJ, rfl⟩
 refine cw_seq ?_
 refine cw_seq ?_
 refine cw_reg ?_
 refine ry (y_mov rfl rfl) rfl rfl ?_
 refine ry (y_lenB rfl Tryd.underlying9 rfl) rfl rfl ?_
 refine ry (y_gtr rfl rfl rfl) rfl rfl ?_
 refine reg_nil ?_
 refine fn_next ?_
 refine cw_condd rfl (fun h8 => ?_) (fun h8 => ?_)
 ·skip
  have hp : p < s.length := by have := List.length_drop (l := s) (i := p); omega
  have hz := runeD_size (s.drop p)
  rw [List.length_drop] at hz
  refine cw_skip ?_
  refine fn_next ?_
  refine cw_block ?_
  refine cw_seq ?_
  refine cw_reg ?_
  refine ry (y_mov rfl rfl) rfl rfl ?_
  refine reg_op (op_call (refSize (s.drop p) _ (drop_byt hB) (by rw [List.length_drop]; omega)) rfl kfref34_2 ⟨rfl, trivial⟩) rfl rfl ?_
  rintro _ w10 ⟨rfl, e9⟩
  have H11 := H6.ext e9
  refine ry (y_mov rfl rfl) rfl rfl ?_
  refine ry (y_ext rfl rfl rfl) rfl rfl ?_
  refine ry (y_ext rfl rfl rfl) rfl rfl ?_
  refine ry (y_asg rfl rfl) rfl rfl ?_
  refine ry (y_asg rfl rfl) rfl rfl ?_
  refine reg_nil ?_
  refine fn_next ?_
  refine cw_seq ?_
  refine cw_reg ?_
  refine ry (y_mov rfl rfl) rfl rfl ?_
  refine ry (y_mov rfl rfl) rfl rfl ?_
  refine ry (y_mov rfl rfl) rfl rfl ?_
  refine ry (y_sth rfl rfl rfl Tryd.underlying9 (rfl) (by rw [List.length_drop]; omega)) rfl rfl ?_
  refine reg_op (op_lit (parts := [(0, _)]) (vs := [(0, _)]) (cs := [.string _]) H11 rfl Tryd.underlying52 kfref34_1 rfl ⟨rfl, trivial⟩ rfl rfl) rfl rfl ?_
  rintro _ w13 ⟨b12, rfl, H14⟩
  have H15 := H14.asrow (m := 1) (size := 1) rfl (by decide)
  refine reg_op (op_app (i := 1) (ys := [.string (bs ((s.drop p).take (runeD (s.drop p)).2))]) H15 rfl rfl rfl rfl (H15.rd (i := 0) rfl) (rfl) (rfl) Tryd.underlying52 kfref34_3 rfl rfl (by unfold maxLen; omega) (by omega)) rfl rfl ?_
  rintro _ w18 ⟨A16, c17, rfl, H19⟩
  refine ry (y_asg rfl rfl) rfl rfl ?_
  refine reg_nil ?_
  refine fn_next ?_
  refine cw_reg ?_
  refine ry (y_mov rfl rfl) rfl rfl ?_
  refine ry (y_mov rfl rfl) rfl rfl ?_
  refine ry (y_stl rfl rfl rfl Tryd.underlying9 (rfl) (by rw [List.length_drop]; omega)) rfl rfl ?_
  refine ry (y_asg rfl rfl) rfl rfl ?_
  refine reg_nil ?_
  refine fn_block ?_
  have hpl : acc.length + 1 = (acc ++ [(s.drop p).take (runeD (s.drop p)).2]).length := by rw [List.length_append]; rfl
  rw [strs_push, hpl] at H19
  refine fn_roundJ ⟨p + (runeD (s.drop p)).2, _, acc ++ [(s.drop p).take (runeD (s.drop p)).2], _, rfl, (H19.pick (m := [_]) [1] rfl (by decide)), by omega, by rw [← hpl]; omega, by rw [hJ, rcs_cons (by rw [List.length_drop]; omega), List.drop_drop, List.append_assoc]; rfl, rfl⟩ ⟨by rw [← List.drop_drop]; rfl, by rw [← hpl]; rfl, trivial⟩ (by omega) (by repeat (first | exact kp_refl | refine kp_app rfl rfl ?_ | refine kp_cons rfl ?_)) rfl
 ·skip
  have hp : ¬ p < s.length := by have := List.length_drop (l := s) (i := p); omega
  refine cw_exit ?_
  refine fn_then_exit (fn_then_exit (fn_block_exit ?_))
  refine fn_next ?_
  refine cw_seq ?_
  refine cw_reg ?_
  refine ry (y_mov rfl rfl) rfl rfl ?_
  refine ry (y_asg rfl rfl) rfl rfl ?_
  refine reg_nil ?_
  refine fn_next ?_
  refine cw_ret ?_
  refine fn_ret1 rfl rfl ?_
  rw [rcs_nil (s := s.drop p) (by rw [List.length_drop]; omega), List.append_nil] at hJ
  rw [hJ]
  exact ⟨_, _, rfl, (H6.pick (m := [_]) [0] rfl (by decide))⟩

end Go.Proofs.YtgkkbeomhkggjaaDoor
