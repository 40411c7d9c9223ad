/- Layer 34: one rune alone. -/
import Derived.Test.YtgkkbeomhkggjaaDoorK20
import Derived.Test.YtgkkbeomhkggjaaDoorDoor34
import Derived.Test.YtgkkbeomhkggjaaDoorChart1
import Derived.Test.YtgkkbeomhkggjaaDoorReads1
set_option linter.unusedVariables false
set_option linter.unusedSimpArgs false
namespace Go.Proofs.YtgkkbeomhkggjaaDoor
open Go Go.RowKit
theorem kfmarks1_1 : callB Tryd.prog 47 = true := by kernel_rfl
theorem kfmarks1_2 : (Tryd.prog.info? 3).map (fun i => (i.size, i.zero.map Value.cells)) = some (1, some (List.toArray [(.int .i64 0)])) := by kernel_rfl
theorem kfmarks1_3 : elB Tryd.prog 102 1 = true := by kernel_rfl
theorem kfmarks1_4 : oneB Tryd.prog 3 = true := by kernel_rfl
/-- the x-th rune of a line begins at byte p -/
def PlP (s : List Int) (x p : Nat) : Prop := p ≤ s.length ∧ ∃ A : List (List Int), rcs s = A ++ rcs (s.drop p) ∧ A.length = x ∧ A.flatten = s.take p
theorem plP_init {s : List Int} : PlP s 0 0 := ⟨Nat.zero_le _, [], rfl, rfl, rfl⟩
theorem plP_step {s : List Int} {x p : Nat} (h : PlP s x p) (hp : p < s.length) : PlP s (x + 1) (p + (runeD (s.drop p)).2) := by
  obtain ⟨h0, A, h1, h2, h3⟩ := h
  have hz := runeD_size (s.drop p)
  rw [List.length_drop] at hz
  refine ⟨by omega, A ++ [(s.drop p).take (runeD (s.drop p)).2], ?_, by simp [h2], ?_⟩
  · rw [h1, rcs_cons (s := s.drop p) (by rw [List.length_drop]; omega), List.drop_drop, List.append_assoc]; rfl
  · rw [List.flatten_append, h3, List.take_add]; simp
theorem plP_lt {s : List Int} {x p : Nat} (h : PlP s x p) (hp : p < s.length) : x < (rcs s).length ∧ (rcs s).getD x [] = (s.drop p).take (runeD (s.drop p)).2 := by
  obtain ⟨h0, A, h1, h2, h3⟩ := h
  rw [rcs_cons (s := s.drop p) (by rw [List.length_drop]; omega)] at h1
  subst h2
  rw [h1]
  exact ⟨by simp, by simp [List.getD]⟩
theorem plP_end {s : List Int} {x p : Nat} (h : PlP s x p) (hp : ¬ p < s.length) : (rcs s).length = x := by
  obtain ⟨h0, A, h1, h2, h3⟩ := h
  rw [h1, rcs_nil (s := s.drop p) (by rw [List.length_drop]; omega)]
  simp [h2]
theorem rcsG_flat : ∀ {k : Nat} {s : List Int}, s.length ≤ k → (rcsG k s).flatten = s
  | 0, s, h => by
    obtain rfl : s = [] := List.eq_nil_of_length_eq_zero (by omega)
    rfl
  | k + 1, s, h => by
    rw [rcsG]
    have hz := runeD_size s
    by_cases h0 : s.length = 0
    · rw [if_pos h0]
      obtain rfl : s = [] := List.eq_nil_of_length_eq_zero h0
      rfl
    · rw [if_neg h0, List.flatten_cons, rcsG_flat (by rw [List.length_drop]; omega), List.take_append_drop]
theorem rcs_flat {s : List Int} : (rcs s).flatten = s := rcsG_flat (Nat.le_refl _)
theorem plP_set {s : List Int} {x p : Nat} (h : PlP s x p) (hp : p < s.length) (e : List Int) : ((rcs s).set x e).flatten = s.take p ++ e ++ s.drop (p + (runeD (s.drop p)).2) := by
  obtain ⟨h0, A, h1, h2, h3⟩ := h
  rw [rcs_cons (s := s.drop p) (by rw [List.length_drop]; omega)] at h1
  subst h2
  rw [h1]
  simp only [List.set_append_right A.length e (Nat.le_refl _), Nat.sub_self, List.set_cons_zero, List.flatten_append, List.flatten_cons, h3, rcs_flat, List.drop_drop, List.append_assoc]
theorem cat_set {q : List (List Int)} {x i : Nat} {e : List Int} (hi : i < q.length) : ((q.set x e).take (i + 1)).flatten = ((q.set x e).take i).flatten ++ (if i = x then e else q.getD i []) := by
  rw [List.take_add_one, List.flatten_append, List.getElem?_set]
  by_cases h : x = i
  · subst h; simp [hi]
  · rw [if_neg h, if_neg (fun k => h k.symm)]; simp [List.getD, hi]

set_option maxRecDepth 100000 in
set_option maxHeartbeats 4000000 in
theorem refRune (s : List Int) (w : World) (hB : Byt s) (h0 : 0 < s.length) :
    Ret Tryd.prog 23 [.string (bs s)] w (fun v w' => v = .tuple #[.int .i32 (if okD s = true then (runeD s).1 else 0), .bool (okD s)] ∧ Below w.heap.size w w') := by
 have hn4 : (runeD s).2 = 1 ∨ (runeD s).2 = 2 ∨ (runeD s).2 = 3 ∨ (runeD s).2 = 4 := by have := runeD_size s; omega
 obtain ⟨f1, f2, f3, f4⟩ := runeD_form hB h0
 refine ret_enter Tryd.func23 rfl rfl rfl ?_
 have H0 := HS.start w
 refine cw_seq ?_
 refine cw_reg ?_
 refine ry (y_asg rfl rfl) rfl rfl ?_
 refine ry (y_asg rfl rfl) rfl rfl ?_
 refine reg_nil ?_
 refine fn_next ?_
 refine cw_seq ?_
 refine cw_reg ?_
 refine ry (y_mov rfl rfl) rfl rfl ?_
 refine reg_op (op_call (refSize s _ hB h0) rfl kfmarks1_1 ⟨rfl, trivial⟩) rfl rfl ?_
 rintro _ w2 ⟨rfl, e1⟩
 have H3 := H0.ext e1
 refine ry (y_mov rfl rfl) rfl rfl ?_
 refine ry (y_ext rfl rfl rfl) rfl rfl ?_
 refine ry (y_ext rfl rfl rfl) rfl rfl ?_
 refine ry (y_asg rfl rfl) rfl rfl ?_
 refine ry (y_asg rfl rfl) rfl rfl ?_
 refine reg_nil ?_
 refine fn_next ?_
 refine cw_seq ?_
 refine cw_seq ?_
 refine cw_reg ?_
 refine ry (y_mov rfl rfl) rfl rfl ?_
 refine ry (y_not rfl rfl) rfl rfl ?_
 refine reg_nil ?_
 refine fn_next ?_
 refine cw_cond rfl (fun h4 => ?_) (fun h4 => ?_)
 ·skip
  have hok : okD s = false := by simpa using h4
  refine cw_seq ?_
  refine cw_reg ?_
  refine ry (y_asg rfl rfl) rfl rfl ?_
  refine ry (y_asg rfl rfl) rfl rfl ?_
  refine reg_nil ?_
  refine fn_next ?_
  refine cw_ret ?_
  refine fn_then_ret ?_
  refine fn_retn (vs := [_, _]) rfl ⟨rfl, rfl, trivial⟩ rfl ?_
  exact ⟨by rw [hok]; rfl, H3.base⟩
 ·skip
  have hok : okD s = true := by simpa using h4
  refine cw_skip ?_
  refine fn_next ?_
  refine cw_seq ?_
  rcases hn4 with hn4 | hn4 | hn4 | hn4
  ·skip
   have hf := f1 hn4 (by have hk : nth s 0 < 128 ∨ 1 < (runeD s).2 := of_decide_eq_true hok; omega)
   have hb0 := hB _ (nth_mem h0)
   rw [hn4]
   refine cw_reg ?_
   refine reg_op (op_lit (parts := [(0, _), (1, _), (2, _), (3, _), (4, _)]) (vs := [(0, _), (1, _), (2, _), (3, _), (4, _)]) (cs := [.int _ _, .int _ _, .int _ _, .int _ _, .int _ _]) H3 rfl Tryd.underlying102 kfmarks1_2 rfl ⟨rfl, rfl, rfl, rfl, rfl, trivial⟩ rfl rfl) rfl rfl ?_
   rintro _ w6 ⟨b5, rfl, H7⟩
   have H8 := H7.asrow (m := 5) (size := 1) rfl (by decide)
   refine ry (y_asg rfl rfl) rfl rfl ?_
   refine reg_nil ?_
   refine fn_next ?_
   refine cw_seq ?_
   refine cw_draw H8 [0, 1, 2, 3, 4, 5, 6, 7, 8] [] (fun X HX => HX) (by kernel_rfl) (by kernel_rfl) (by rfl) ?_
   simp only [pick, List.getElem?_cons_succ, List.getElem?_cons_zero]
   refine hk_y (fun Y HY => y_mov rfl rfl) rfl rfl ?_
   refine hk_y (fun Y HY => y_indexB (i := 0) rfl Tryd.underlying9 rfl rfl (rfl) (hB) (by omega)) rfl rfl ?_
   refine hk_y (fun Y HY => y_conv rfl Tryd.underlying5 Tryd.underlying3 rfl (wi (by omega))) rfl rfl ?_
   refine hk_y (fun Y HY => y_mov rfl rfl) rfl rfl ?_
   refine hk_y (fun Y HY => y_mov rfl rfl) rfl rfl ?_
   refine hk_y (fun Y HY => y_iar (i := 1) (HY.rd (i := 0) rfl) rfl rfl rfl kfmarks1_3 (rfl) (by omega) (Nat.mul_one _) (rfl)) rfl rfl ?_
   refine hk_y (fun Y HY => y_ldr (HY.rd (i := 0) rfl) rfl rfl kfmarks1_4 (rfl)) rfl rfl ?_
   refine hk_y (fun Y HY => y_sub rfl rfl rfl (wi (by omega))) rfl rfl ?_
   refine hk_y (fun Y HY => y_asg rfl rfl) rfl rfl ?_
   refine hk_nil ?_
   intro w9 H10
   refine tv_nil ?_
   refine fn_next ?_
   refine cw_seq ?_
   refine cw_seq ?_
   refine cw_reg ?_
   refine ry (y_asg rfl rfl) rfl rfl ?_
   refine reg_nil ?_
   refine fn_next ?_
   refine cw_block ?_
   refine cw_loopR 1 ?_
   refine cw_seq ?_
   refine cw_seq ?_
   refine cw_reg ?_
   refine ry (y_mov rfl rfl) rfl rfl ?_
   refine ry (y_mov rfl rfl) rfl rfl ?_
   refine ry (y_lss rfl rfl rfl) rfl rfl ?_
   refine reg_nil ?_
   refine fn_next ?_
   refine cw_condf rfl ?_
   refine cw_exit ?_
   refine fn_then_exit (fn_then_exit (fn_block_exit ?_))
   refine fn_next ?_
   refine cw_seq ?_
   refine cw_reg ?_
   refine ry (y_mov rfl rfl) rfl rfl ?_
   refine ry (y_conv rfl Tryd.underlying3 Tryd.underlying21 rfl (wi32 (by omega))) rfl rfl ?_
   refine ry (y_asg rfl rfl) rfl rfl ?_
   refine ry (y_asg rfl rfl) rfl rfl ?_
   refine reg_nil ?_
   refine fn_next ?_
   refine cw_ret ?_
   refine fn_retn (vs := [_, _]) rfl ⟨rfl, rfl, trivial⟩ rfl ?_
   exact ⟨by rw [hok, if_pos rfl]; congr 4; omega, H10.base⟩
  ·skip
   have hf := f2 hn4
   have hb0 := hB _ (nth_mem h0)
   have hb1 := hB _ (nth_mem (show 1 < s.length by omega))
   rw [hn4]
   refine cw_reg ?_
   refine reg_op (op_lit (parts := [(0, _), (1, _), (2, _), (3, _), (4, _)]) (vs := [(0, _), (1, _), (2, _), (3, _), (4, _)]) (cs := [.int _ _, .int _ _, .int _ _, .int _ _, .int _ _]) H3 rfl Tryd.underlying102 kfmarks1_2 rfl ⟨rfl, rfl, rfl, rfl, rfl, trivial⟩ rfl rfl) rfl rfl ?_
   rintro _ w12 ⟨b11, rfl, H13⟩
   have H14 := H13.asrow (m := 5) (size := 1) rfl (by decide)
   refine ry (y_asg rfl rfl) rfl rfl ?_
   refine reg_nil ?_
   refine fn_next ?_
   refine cw_seq ?_
   refine cw_draw H14 [0, 1, 2, 3, 4, 5, 6, 7, 8] [] (fun X HX => HX) (by kernel_rfl) (by kernel_rfl) (by rfl) ?_
   simp only [pick, List.getElem?_cons_succ, List.getElem?_cons_zero]
   refine hk_y (fun Y HY => y_mov rfl rfl) rfl rfl ?_
   refine hk_y (fun Y HY => y_indexB (i := 0) rfl Tryd.underlying9 rfl rfl (rfl) (hB) (by omega)) rfl rfl ?_
   refine hk_y (fun Y HY => y_conv rfl Tryd.underlying5 Tryd.underlying3 rfl (wi (by omega))) rfl rfl ?_
   refine hk_y (fun Y HY => y_mov rfl rfl) rfl rfl ?_
   refine hk_y (fun Y HY => y_mov rfl rfl) rfl rfl ?_
   refine hk_y (fun Y HY => y_iar (i := 2) (HY.rd (i := 0) rfl) rfl rfl rfl kfmarks1_3 (rfl) (by omega) (Nat.mul_one _) (rfl)) rfl rfl ?_
   refine hk_y (fun Y HY => y_ldr (HY.rd (i := 0) rfl) rfl rfl kfmarks1_4 (rfl)) rfl rfl ?_
   refine hk_y (fun Y HY => y_sub rfl rfl rfl (wi (by omega))) rfl rfl ?_
   refine hk_y (fun Y HY => y_asg rfl rfl) rfl rfl ?_
   refine hk_nil ?_
   intro w15 H16
   refine tv_nil ?_
   refine fn_next ?_
   refine cw_seq ?_
   refine cw_seq ?_
   refine cw_reg ?_
   refine ry (y_asg rfl rfl) rfl rfl ?_
   refine reg_nil ?_
   refine fn_next ?_
   refine cw_block ?_
   refine cw_loopR 2 ?_
   refine cw_seq ?_
   refine cw_seq ?_
   refine cw_reg ?_
   refine ry (y_mov rfl rfl) rfl rfl ?_
   refine ry (y_mov rfl rfl) rfl rfl ?_
   refine ry (y_lss rfl rfl rfl) rfl rfl ?_
   refine reg_nil ?_
   refine fn_next ?_
   refine cw_condt rfl ?_
   refine cw_skip ?_
   refine fn_next ?_
   refine cw_seq ?_
   refine cw_block ?_
   refine cw_reg ?_
   refine ry (y_mov rfl rfl) rfl rfl ?_
   refine ry (y_mul rfl rfl rfl (wi (by omega))) rfl rfl ?_
   refine ry (y_mov rfl rfl) rfl rfl ?_
   refine ry (y_mov rfl rfl) rfl rfl ?_
   refine ry (y_indexB (i := 1) rfl Tryd.underlying9 rfl rfl (rfl) (hB) (by omega)) rfl rfl ?_
   refine ry (y_conv rfl Tryd.underlying5 Tryd.underlying3 rfl (wi (by omega))) rfl rfl ?_
   refine ry (y_add rfl rfl rfl (wi (by omega))) rfl rfl ?_
   refine ry (y_sub rfl rfl rfl (wi (by omega))) rfl rfl ?_
   refine ry (y_asg rfl rfl) rfl rfl ?_
   refine reg_nil ?_
   refine fn_block ?_
   refine fn_next ?_
   refine cw_reg ?_
   refine ry (y_mov rfl rfl) rfl rfl ?_
   refine ry (y_add rfl rfl rfl (wi (by omega))) rfl rfl ?_
   refine ry (y_asg rfl rfl) rfl rfl ?_
   refine reg_nil ?_
   refine fn_roundR ?_
   refine cw_seq ?_
   refine cw_seq ?_
   refine cw_reg ?_
   refine ry (y_mov rfl rfl) rfl rfl ?_
   refine ry (y_mov rfl rfl) rfl rfl ?_
   refine ry (y_lss rfl rfl rfl) rfl rfl ?_
   refine reg_nil ?_
   refine fn_next ?_
   refine cw_condf rfl ?_
   refine cw_exit ?_
   refine fn_then_exit (fn_then_exit (fn_block_exit ?_))
   refine fn_next ?_
   refine cw_seq ?_
   refine cw_reg ?_
   refine ry (y_mov rfl rfl) rfl rfl ?_
   refine ry (y_conv rfl Tryd.underlying3 Tryd.underlying21 rfl (wi32 (by omega))) rfl rfl ?_
   refine ry (y_asg rfl rfl) rfl rfl ?_
   refine ry (y_asg rfl rfl) rfl rfl ?_
   refine reg_nil ?_
   refine fn_next ?_
   refine cw_ret ?_
   refine fn_retn (vs := [_, _]) rfl ⟨rfl, rfl, trivial⟩ rfl ?_
   exact ⟨by rw [hok, if_pos rfl]; congr 4; omega, H16.base⟩
  ·skip
   have hf := f3 hn4
   have hb0 := hB _ (nth_mem h0)
   have hb1 := hB _ (nth_mem (show 1 < s.length by omega))
   have hb2 := hB _ (nth_mem (show 2 < s.length by omega))
   rw [hn4]
   refine cw_reg ?_
   refine reg_op (op_lit (parts := [(0, _), (1, _), (2, _), (3, _), (4, _)]) (vs := [(0, _), (1, _), (2, _), (3, _), (4, _)]) (cs := [.int _ _, .int _ _, .int _ _, .int _ _, .int _ _]) H3 rfl Tryd.underlying102 kfmarks1_2 rfl ⟨rfl, rfl, rfl, rfl, rfl, trivial⟩ rfl rfl) rfl rfl ?_
   rintro _ w18 ⟨b17, rfl, H19⟩
   have H20 := H19.asrow (m := 5) (size := 1) rfl (by decide)
   refine ry (y_asg rfl rfl) rfl rfl ?_
   refine reg_nil ?_
   refine fn_next ?_
   refine cw_seq ?_
   refine cw_draw H20 [0, 1, 2, 3, 4, 5, 6, 7, 8] [] (fun X HX => HX) (by kernel_rfl) (by kernel_rfl) (by rfl) ?_
   simp only [pick, List.getElem?_cons_succ, List.getElem?_cons_zero]
   refine hk_y (fun Y HY => y_mov rfl rfl) rfl rfl ?_
   refine hk_y (fun Y HY => y_indexB (i := 0) rfl Tryd.underlying9 rfl rfl (rfl) (hB) (by omega)) rfl rfl ?_
   refine hk_y (fun Y HY => y_conv rfl Tryd.underlying5 Tryd.underlying3 rfl (wi (by omega))) rfl rfl ?_
   refine hk_y (fun Y HY => y_mov rfl rfl) rfl rfl ?_
   refine hk_y (fun Y HY => y_mov rfl rfl) rfl rfl ?_
   refine hk_y (fun Y HY => y_iar (i := 3) (HY.rd (i := 0) rfl) rfl rfl rfl kfmarks1_3 (rfl) (by omega) (Nat.mul_one _) (rfl)) rfl rfl ?_
   refine hk_y (fun Y HY => y_ldr (HY.rd (i := 0) rfl) rfl rfl kfmarks1_4 (rfl)) rfl rfl ?_
   refine hk_y (fun Y HY => y_sub rfl rfl rfl (wi (by omega))) rfl rfl ?_
   refine hk_y (fun Y HY => y_asg rfl rfl) rfl rfl ?_
   refine hk_nil ?_
   intro w21 H22
   refine tv_nil ?_
   refine fn_next ?_
   refine cw_seq ?_
   refine cw_seq ?_
   refine cw_reg ?_
   refine ry (y_asg rfl rfl) rfl rfl ?_
   refine reg_nil ?_
   refine fn_next ?_
   refine cw_block ?_
   refine cw_loopR 3 ?_
   refine cw_seq ?_
   refine cw_seq ?_
   refine cw_reg ?_
   refine ry (y_mov rfl rfl) rfl rfl ?_
   refine ry (y_mov rfl rfl) rfl rfl ?_
   refine ry (y_lss rfl rfl rfl) rfl rfl ?_
   refine reg_nil ?_
   refine fn_next ?_
   refine cw_condt rfl ?_
   refine cw_skip ?_
   refine fn_next ?_
   refine cw_seq ?_
   refine cw_block ?_
   refine cw_reg ?_
   refine ry (y_mov rfl rfl) rfl rfl ?_
   refine ry (y_mul rfl rfl rfl (wi (by omega))) rfl rfl ?_
   refine ry (y_mov rfl rfl) rfl rfl ?_
   refine ry (y_mov rfl rfl) rfl rfl ?_
   refine ry (y_indexB (i := 1) rfl Tryd.underlying9 rfl rfl (rfl) (hB) (by omega)) rfl rfl ?_
   refine ry (y_conv rfl Tryd.underlying5 Tryd.underlying3 rfl (wi (by omega))) rfl rfl ?_
   refine ry (y_add rfl rfl rfl (wi (by omega))) rfl rfl ?_
   refine ry (y_sub rfl rfl rfl (wi (by omega))) rfl rfl ?_
   refine ry (y_asg rfl rfl) rfl rfl ?_
   refine reg_nil ?_
   refine fn_block ?_
   refine fn_next ?_
   refine cw_reg ?_
   refine ry (y_mov rfl rfl) rfl rfl ?_
   refine ry (y_add rfl rfl rfl (wi (by omega))) rfl rfl ?_
   refine ry (y_asg rfl rfl) rfl rfl ?_
   refine reg_nil ?_
   refine fn_roundR ?_
   refine cw_seq ?_
   refine cw_seq ?_
   refine cw_reg ?_
   refine ry (y_mov rfl rfl) rfl rfl ?_
   refine ry (y_mov rfl rfl) rfl rfl ?_
   refine ry (y_lss rfl rfl rfl) rfl rfl ?_
   refine reg_nil ?_
   refine fn_next ?_
   refine cw_condt rfl ?_
   refine cw_skip ?_
   refine fn_next ?_
   refine cw_seq ?_
   refine cw_block ?_
   refine cw_reg ?_
   refine ry (y_mov rfl rfl) rfl rfl ?_
   refine ry (y_mul rfl rfl rfl (wi (by omega))) rfl rfl ?_
   refine ry (y_mov rfl rfl) rfl rfl ?_
   refine ry (y_mov rfl rfl) rfl rfl ?_
   refine ry (y_indexB (i := 2) rfl Tryd.underlying9 rfl rfl (rfl) (hB) (by omega)) rfl rfl ?_
   refine ry (y_conv rfl Tryd.underlying5 Tryd.underlying3 rfl (wi (by omega))) rfl rfl ?_
   refine ry (y_add rfl rfl rfl (wi (by omega))) rfl rfl ?_
   refine ry (y_sub rfl rfl rfl (wi (by omega))) rfl rfl ?_
   refine ry (y_asg rfl rfl) rfl rfl ?_
   refine reg_nil ?_
   refine fn_block ?_
   refine fn_next ?_
   refine cw_reg ?_
   refine ry (y_mov rfl rfl) rfl rfl ?_
   refine ry (y_add rfl rfl rfl (wi (by omega))) rfl rfl ?_
   refine ry (y_asg rfl rfl) rfl rfl ?_
   refine reg_nil ?_
   refine fn_roundR ?_
   refine cw_seq ?_
   refine cw_seq ?_
   refine cw_reg ?_
   refine ry (y_mov rfl rfl) rfl rfl ?_
   refine ry (y_mov rfl rfl) rfl rfl ?_
   refine ry (y_lss rfl rfl rfl) rfl rfl ?_
   refine reg_nil ?_
   refine fn_next ?_
   refine cw_condf rfl ?_
   refine cw_exit ?_
   refine fn_then_exit (fn_then_exit (fn_block_exit ?_))
   refine fn_next ?_
   refine cw_seq ?_
   refine cw_reg ?_
   refine ry (y_mov rfl rfl) rfl rfl ?_
   refine ry (y_conv rfl Tryd.underlying3 Tryd.underlying21 rfl (wi32 (by omega))) rfl rfl ?_
   refine ry (y_asg rfl rfl) rfl rfl ?_
   refine ry (y_asg rfl rfl) rfl rfl ?_
   refine reg_nil ?_
   refine fn_next ?_
   refine cw_ret ?_
   refine fn_retn (vs := [_, _]) rfl ⟨rfl, rfl, trivial⟩ rfl ?_
   exact ⟨by rw [hok, if_pos rfl]; congr 4; omega, H22.base⟩
  ·skip
   have hf := f4 hn4
   have hb0 := hB _ (nth_mem h0)
   have hb1 := hB _ (nth_mem (show 1 < s.length by omega))
   have hb2 := hB _ (nth_mem (show 2 < s.length by omega))
   have hb3 := hB _ (nth_mem (show 3 < s.length by omega))
   rw [hn4]
   refine cw_reg ?_
   refine reg_op (op_lit (parts := [(0, _), (1, _), (2, _), (3, _), (4, _)]) (vs := [(0, _), (1, _), (2, _), (3, _), (4, _)]) (cs := [.int _ _, .int _ _, .int _ _, .int _ _, .int _ _]) H3 rfl Tryd.underlying102 kfmarks1_2 rfl ⟨rfl, rfl, rfl, rfl, rfl, trivial⟩ rfl rfl) rfl rfl ?_
   rintro _ w24 ⟨b23, rfl, H25⟩
   have H26 := H25.asrow (m := 5) (size := 1) rfl (by decide)
   refine ry (y_asg rfl rfl) rfl rfl ?_
   refine reg_nil ?_
   refine fn_next ?_
   refine cw_seq ?_
   refine cw_draw H26 [0, 1, 2, 3, 4, 5, 6, 7, 8] [] (fun X HX => HX) (by kernel_rfl) (by kernel_rfl) (by rfl) ?_
   simp only [pick, List.getElem?_cons_succ, List.getElem?_cons_zero]
   refine hk_y (fun Y HY => y_mov rfl rfl) rfl rfl ?_
   refine hk_y (fun Y HY => y_indexB (i := 0) rfl Tryd.underlying9 rfl rfl (rfl) (hB) (by omega)) rfl rfl ?_
   refine hk_y (fun Y HY => y_conv rfl Tryd.underlying5 Tryd.underlying3 rfl (wi (by omega))) rfl rfl ?_
   refine hk_y (fun Y HY => y_mov rfl rfl) rfl rfl ?_
   refine hk_y (fun Y HY => y_mov rfl rfl) rfl rfl ?_
   refine hk_y (fun Y HY => y_iar (i := 4) (HY.rd (i := 0) rfl) rfl rfl rfl kfmarks1_3 (rfl) (by omega) (Nat.mul_one _) (rfl)) rfl rfl ?_
   refine hk_y (fun Y HY => y_ldr (HY.rd (i := 0) rfl) rfl rfl kfmarks1_4 (rfl)) rfl rfl ?_
   refine hk_y (fun Y HY => y_sub rfl rfl rfl (wi (by omega))) rfl rfl ?_
   refine hk_y (fun Y HY => y_asg rfl rfl) rfl rfl ?_
   refine hk_nil ?_
   intro w27 H28
   refine tv_nil ?_
   refine fn_next ?_
   refine cw_seq ?_
   refine cw_seq ?_
   refine cw_reg ?_
   refine ry (y_asg rfl rfl) rfl rfl ?_
   refine reg_nil ?_
   refine fn_next ?_
   refine cw_block ?_
   refine cw_loopR 4 ?_
   refine cw_seq ?_
   refine cw_seq ?_
   refine cw_reg ?_
   refine ry (y_mov rfl rfl) rfl rfl ?_
   refine ry (y_mov rfl rfl) rfl rfl ?_
   refine ry (y_lss rfl rfl rfl) rfl rfl ?_
   refine reg_nil ?_
   refine fn_next ?_
   refine cw_condt rfl ?_
   refine cw_skip ?_
   refine fn_next ?_
   refine cw_seq ?_
   refine cw_block ?_
   refine cw_reg ?_
   refine ry (y_mov rfl rfl) rfl rfl ?_
   refine ry (y_mul rfl rfl rfl (wi (by omega))) rfl rfl ?_
   refine ry (y_mov rfl rfl) rfl rfl ?_
   refine ry (y_mov rfl rfl) rfl rfl ?_
   refine ry (y_indexB (i := 1) rfl Tryd.underlying9 rfl rfl (rfl) (hB) (by omega)) rfl rfl ?_
   refine ry (y_conv rfl Tryd.underlying5 Tryd.underlying3 rfl (wi (by omega))) rfl rfl ?_
   refine ry (y_add rfl rfl rfl (wi (by omega))) rfl rfl ?_
   refine ry (y_sub rfl rfl rfl (wi (by omega))) rfl rfl ?_
   refine ry (y_asg rfl rfl) rfl rfl ?_
   refine reg_nil ?_
   refine fn_block ?_
   refine fn_next ?_
   refine cw_reg ?_
   refine ry (y_mov rfl rfl) rfl rfl ?_
   refine ry (y_add rfl rfl rfl (wi (by omega))) rfl rfl ?_
   refine ry (y_asg rfl rfl) rfl rfl ?_
   refine reg_nil ?_
   refine fn_roundR ?_
   refine cw_seq ?_
   refine cw_seq ?_
   refine cw_reg ?_
   refine ry (y_mov rfl rfl) rfl rfl ?_
   refine ry (y_mov rfl rfl) rfl rfl ?_
   refine ry (y_lss rfl rfl rfl) rfl rfl ?_
   refine reg_nil ?_
   refine fn_next ?_
   refine cw_condt rfl ?_
   refine cw_skip ?_
   refine fn_next ?_
   refine cw_seq ?_
   refine cw_block ?_
   refine cw_reg ?_
   refine ry (y_mov rfl rfl) rfl rfl ?_
   refine ry (y_mul rfl rfl rfl (wi (by omega))) rfl rfl ?_
   refine ry (y_mov rfl rfl) rfl rfl ?_
   refine ry (y_mov rfl rfl) rfl rfl ?_
   refine ry (y_indexB (i := 2) rfl Tryd.underlying9 rfl rfl (rfl) (hB) (by omega)) rfl rfl ?_
   refine ry (y_conv rfl Tryd.underlying5 Tryd.underlying3 rfl (wi (by omega))) rfl rfl ?_
   refine ry (y_add rfl rfl rfl (wi (by omega))) rfl rfl ?_
   refine ry (y_sub rfl rfl rfl (wi (by omega))) rfl rfl ?_
   refine ry (y_asg rfl rfl) rfl rfl ?_
   refine reg_nil ?_
   refine fn_block ?_
   refine fn_next ?_
   refine cw_reg ?_
   refine ry (y_mov rfl rfl) rfl rfl ?_
   refine ry (y_add rfl rfl rfl (wi (by omega))) rfl rfl ?_
   refine ry (y_asg rfl rfl) rfl rfl ?_
   refine reg_nil ?_
   refine fn_roundR ?_
   refine cw_seq ?_
   refine cw_seq ?_
   refine cw_reg ?_
   refine ry (y_mov rfl rfl) rfl rfl ?_
   refine ry (y_mov rfl rfl) rfl rfl ?_
   refine ry (y_lss rfl rfl rfl) rfl rfl ?_
   refine reg_nil ?_
   refine fn_next ?_
   refine cw_condt rfl ?_
   refine cw_skip ?_
   refine fn_next ?_
   refine cw_seq ?_
   refine cw_block ?_
   refine cw_reg ?_
   refine ry (y_mov rfl rfl) rfl rfl ?_
   refine ry (y_mul rfl rfl rfl (wi (by omega))) rfl rfl ?_
   refine ry (y_mov rfl rfl) rfl rfl ?_
   refine ry (y_mov rfl rfl) rfl rfl ?_
   refine ry (y_indexB (i := 3) rfl Tryd.underlying9 rfl rfl (rfl) (hB) (by omega)) rfl rfl ?_
   refine ry (y_conv rfl Tryd.underlying5 Tryd.underlying3 rfl (wi (by omega))) rfl rfl ?_
   refine ry (y_add rfl rfl rfl (wi (by omega))) rfl rfl ?_
   refine ry (y_sub rfl rfl rfl (wi (by omega))) rfl rfl ?_
   refine ry (y_asg rfl rfl) rfl rfl ?_
   refine reg_nil ?_
   refine fn_block ?_
   refine fn_next ?_
   refine cw_reg ?_
   refine ry (y_mov rfl rfl) rfl rfl ?_
   refine ry (y_add rfl rfl rfl (wi (by omega))) rfl rfl ?_
   refine ry (y_asg rfl rfl) rfl rfl ?_
   refine reg_nil ?_
   refine fn_roundR ?_
   refine cw_seq ?_
   refine cw_seq ?_
   refine cw_reg ?_
   refine ry (y_mov rfl rfl) rfl rfl ?_
   refine ry (y_mov rfl rfl) rfl rfl ?_
   refine ry (y_lss rfl rfl rfl) rfl rfl ?_
   refine reg_nil ?_
   refine fn_next ?_
   refine cw_condf rfl ?_
   refine cw_exit ?_
   refine fn_then_exit (fn_then_exit (fn_block_exit ?_))
   refine fn_next ?_
   refine cw_seq ?_
   refine cw_reg ?_
   refine ry (y_mov rfl rfl) rfl rfl ?_
   refine ry (y_conv rfl Tryd.underlying3 Tryd.underlying21 rfl (wi32 (by omega))) rfl rfl ?_
   refine ry (y_asg rfl rfl) rfl rfl ?_
   refine ry (y_asg rfl rfl) rfl rfl ?_
   refine reg_nil ?_
   refine fn_next ?_
   refine cw_ret ?_
   refine fn_retn (vs := [_, _]) rfl ⟨rfl, rfl, trivial⟩ rfl ?_
   exact ⟨by rw [hok, if_pos rfl]; congr 4; omega, H28.base⟩

end Go.Proofs.YtgkkbeomhkggjaaDoor
