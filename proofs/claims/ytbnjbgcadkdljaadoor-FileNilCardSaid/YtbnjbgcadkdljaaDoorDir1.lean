/- Layer 13: entries, Put. -/
import Derived.Test.YtbnjbgcadkdljaaDoorDir0
set_option linter.unusedVariables false
set_option linter.unusedSimpArgs false
namespace Go.Proofs.YtbnjbgcadkdljaaDoor
open Go Go.RowKit
theorem kfdir1_1 : elB Tryd.prog 39 1 = true := by kernel_rfl
theorem kfdir1_2 : oneB Tryd.prog 2 = true := by kernel_rfl
theorem kfdir1_3 : (Tryd.prog.info? 83).bind (fun i => i.zero.map Value.cells) = some (List.toArray [(.int .i64 0), (.int .i64 0)]) := by kernel_rfl
theorem kfdir1_4 : (Tryd.prog.info? 83).map (fun i => (i.size, i.zero.map Value.cells)) = some (2, some (List.toArray [(.int .i64 0), (.int .i64 0)])) := by kernel_rfl
theorem kfdir1_5 : (Tryd.prog.info? 83).map (fun i => (i.zero.map (·.cells.toList), i.size, i.bytes)) = some (some [(.int .i64 0), (.int .i64 0)], 2, 16) := by kernel_rfl
theorem kfdir1_6 : callB Tryd.prog 55 = true := by kernel_rfl
theorem kfdir1_8 : (Tryd.prog.info? 5).map (fun i => (i.zero.map (·.cells.toList), i.size, i.bytes)) = some (some [(.int .u8 0)], 1, 1) := by kernel_rfl
theorem ent_part {l : List Int} {i : Nat} (hi : i < l.length) (a : Int) : ∀ j v, ([.int .i64 (a + sumL (l.take i)), .int .i64 (nth l i)] : List Value)[j]? = some v → (vi .i64 (entF a l))[i * 2 + j]? = some v := by
  intro j v hv
  have h1 := entF_at hi a
  have hl := entF_len l a
  match j, hv with
  | 0, hv =>
    rw [Nat.add_zero, vi_get (by omega), h1.1]; exact hv
  | 1, hv =>
    rw [vi_get (by omega), h1.2]; exact hv
theorem ent_get {l : List Int} {i : Nat} (hi : i < l.length) (a : Int) : (vi .i64 (entF a l))[i * 2]? = some (.int .i64 (a + sumL (l.take i))) := ent_part hi a 0 _ rfl
theorem not_ok {l : List Int} {i : Nat} (hi : i < l.length) (h : nth l i < 1 ∨ 1048576 < nth l i) : ¬ okL l := fun ho => by have := okL_at ho hi; omega

theorem Tiles_ok (a h : Int) (w : World) (hb : ¬ badS a h) : Ret Tryd.prog 34 [.int .i64 a, .int .i64 h] w (fun v w' => v = .tuple #[.int .i64 (tilN a h), .int .i64 0] ∧ Below w.heap.size w w') := by
  have := Tiles_good a h w hb
  unfold tilS at this; rw [if_neg hb] at this; exact this

theorem Size_ok (a h : Int) (w : World) (hb : ¬ badS a h) : Ret Tryd.prog 35 [.int .i64 a, .int .i64 h] w (fun v w' => v = .tuple #[.int .i64 (13 + 8 * tilN a h), .int .i64 0] ∧ Below w.heap.size w w') := by
  have := Size_good a h w hb
  unfold sizS at this; rw [if_neg hb] at this; exact this

theorem Tiles_no (a h : Int) (w : World) (ha : -9223372036854775808 ≤ a ∧ a ≤ 9223372036854775807) (hh : -9223372036854775808 ≤ h ∧ h ≤ 9223372036854775807) (hb : badS a h) : Ret Tryd.prog 34 [.int .i64 a, .int .i64 h] w (fun v w' => v = .tuple #[.int .i64 0, .int .i64 3] ∧ Below w.heap.size w w') := by
  have := Tiles_bad a h w ha hh hb
  unfold tilS at this; rw [if_pos hb] at this; exact this

set_option maxRecDepth 100000 in
theorem entries_ok (a : Int) (A : Option Addr) (m cap : Nat) (zs : List Int) (w : World) (hz : Rd w A (vi .i64 zs)) (hl : zs.length = m) (hm : m ≤ 5000) (hok : okL zs) (hab : 0 ≤ a ∧ a ≤ 100000) :
    Ret Tryd.prog 36 [.int .i64 a, .slice A m cap] w (fun v w' => ∃ A' cap', v = .tuple #[.slice A' m cap', .bool true] ∧ HS w w' [.row A' m cap' (vi .i64 (entF a zs)) 83 2]) := by
  refine ret_enter Tryd.func36 rfl rfl rfl ?_
  have H0 := HS.start w
  refine cw_seq ?_
  refine cw_reg ?_
  refine ry (y_asg rfl rfl) rfl rfl ?_
  refine ry (y_asg rfl rfl) rfl rfl ?_
  refine reg_nil ?_
  refine fn_next ?_
  refine cw_seq ?_
  refine cw_reg ?_
  refine ry (y_asg rfl rfl) rfl rfl ?_
  refine reg_nil ?_
  refine fn_next ?_
  refine cw_seq ?_
  refine cw_seq ?_
  refine cw_reg ?_
  refine ry (y_mov rfl rfl) rfl rfl ?_
  refine ry (y_len rfl Tryd.underlying39 rfl) rfl rfl ?_
  refine ry (y_mov rfl rfl) rfl rfl ?_
  refine reg_nil ?_
  refine fn_next ?_
  refine cw_block ?_
  have Hn := H0.nilrow 83 2
  refine cw_loopJ [0, 4, 5, 6, 8, 11, 12, 13, 14, 15, 16, 17, 18, 19, 20, 21, 22, 23, 24, 25, 26, 27, 28, 29, 30] (fun M wl ml => ∃ (i : Nat) (A' : Option Addr) (cap' : Nat), M = [(0, .int .i64 (a + sumL (zs.take i))), (6, .slice A' i cap'), (11, .int .i64 (i : Int))] ∧ HS w wl [.row A' i cap' (vi .i64 (entF a (zs.take i))) 83 2] ∧ (i ≤ m) ∧ ml = m - i) ⟨0, none, 0, rfl, Hn, Nat.zero_le _, rfl⟩ ⟨si (by simp [sumL]), rfl, rfl, trivial⟩ ?_
  rintro M w1 m3 ⟨i, A', cap', rfl, H2, hp0, rfl⟩
  refine cw_seq ?_
  refine cw_reg ?_
  refine ry (y_lss rfl rfl rfl) rfl rfl ?_
  refine reg_nil ?_
  refine fn_next ?_
  refine cw_seq ?_
  refine cw_condd rfl (fun h4 => ?_) (fun h4 => ?_)
  · skip
    have hil : i < zs.length := by omega
    have hge := vi_get (k := .i64) hil
    have htk := take_succ_nth hil
    have htl : (zs.take i).length ≤ i := List.length_take_le _ _
    have hx := okL_at hok hil
    have hsb := sumL_bd (okL_take hok i)
    refine cw_skip ?_
    refine fn_next ?_
    refine cw_seq ?_
    refine cw_block ?_
    refine cw_seq ?_
    refine cw_reg ?_
    refine ry (y_iar (hz.below H2.base) rfl rfl rfl kfdir1_1 (rfl) (by omega) (Nat.mul_one _) (hge)) rfl rfl ?_
    refine ry (y_ldr (hz.below H2.base) rfl rfl kfdir1_2 (hge)) rfl rfl ?_
    refine ry (y_asg rfl rfl) rfl rfl ?_
    refine reg_nil ?_
    refine fn_next ?_
    refine cw_seq ?_
    refine cw_seq ?_
    refine cw_reg ?_
    refine ry (y_mov rfl rfl) rfl rfl ?_
    refine ry (y_lss rfl rfl rfl) rfl rfl ?_
    refine ry (y_mov rfl rfl) rfl rfl ?_
    refine rg_splitd (d := 17) rfl (fun h5 => ?_) (fun h5 => ?_)
    · exfalso; omega
    · skip
      refine rgy (y_mov rfl rfl) rfl rfl rfl rfl ?_
      refine rgy (y_gtr rfl rfl rfl) rfl rfl rfl rfl ?_
      refine ry (y_pick rfl rfl rfl) rfl rfl ?_
      refine reg_nil ?_
      refine fn_next ?_
      refine cw_condd rfl (fun h6 => ?_) (fun h6 => ?_)
      · exfalso; omega
      · skip
        refine cw_skip ?_
        refine fn_next ?_
        refine cw_seq ?_
        refine cw_reg ?_
        refine ry (y_mov rfl rfl) rfl rfl ?_
        refine ry (y_mov rfl rfl) rfl rfl ?_
        refine ry (y_mov rfl rfl) rfl rfl ?_
        refine ry (y_build (places := [(0, 1), (1, 1)]) (parts := [(0, _), (1, _)]) (vs := [(0, _), (1, _)]) (cs := [.int _ _, .int _ _]) rfl Tryd.underlying83 (by kernel_rfl) kfdir1_3 rfl ⟨rfl, rfl, trivial⟩ rfl) rfl rfl ?_
        refine reg_op (op_lit (parts := [(0, _)]) (vs := [(0, _)]) (cs := [.int _ _, .int _ _]) H2 rfl Tryd.underlying78 kfdir1_4 rfl ⟨rfl, trivial⟩ rfl rfl) rfl rfl ?_
        rintro _ w8 ⟨b7, rfl, H9⟩
        have H10 := H9.asrow (m := 1) (size := 2) rfl (by decide)
        refine reg_op (op_app (i := 1) H10 rfl rfl rfl rfl (H10.rd (i := 0) rfl) (rfl) (rfl) Tryd.underlying78 kfdir1_5 rfl rfl (by unfold maxLen; omega) (by omega)) rfl rfl ?_
        rintro _ w13 ⟨A11, c12, rfl, H14⟩
        refine ry (y_asg rfl rfl) rfl rfl ?_
        refine reg_nil ?_
        refine fn_next ?_
        refine cw_reg ?_
        refine ry (y_mov rfl rfl) rfl rfl ?_
        refine ry (y_mov rfl rfl) rfl rfl ?_
        refine ry (y_add rfl rfl rfl (wi (by omega))) rfl rfl ?_
        refine ry (y_asg rfl rfl) rfl rfl ?_
        refine reg_nil ?_
        refine fn_block ?_
        refine fn_next ?_
        refine cw_reg ?_
        refine ry (y_add rfl rfl rfl (wi (by omega))) rfl rfl ?_
        refine ry (y_mov rfl rfl) rfl rfl ?_
        refine reg_nil ?_
        rw [vi_app2, ← entF_snoc, ← htk] at H14
        refine fn_roundJ ⟨i + 1, _, _, rfl, (H14.pick [1] rfl (by decide)), by omega, rfl⟩ ⟨si (by rw [htk, sumL_snoc]; omega), rfl, rfl, trivial⟩ (by omega) (by repeat (first | exact kp_refl | refine kp_app rfl rfl ?_ | refine kp_cons rfl ?_)) rfl
  · skip
    have hie : zs.take i = zs := List.take_of_length_le (by omega)
    refine cw_exit ?_
    refine fn_then_exit (fn_then_exit (fn_block_exit ?_))
    refine fn_next ?_
    refine cw_seq ?_
    refine cw_reg ?_
    refine ry (y_mov rfl rfl) rfl rfl ?_
    refine ry (y_asg rfl rfl) rfl rfl ?_
    refine ry (y_asg rfl rfl) rfl rfl ?_
    refine reg_nil ?_
    refine fn_next ?_
    refine cw_ret ?_
    refine fn_retn (vs := [_, _]) rfl ⟨rfl, rfl, trivial⟩ rfl ?_
    rw [hie] at H2
    obtain rfl : i = m := by omega
    exact ⟨_, _, rfl, H2⟩

set_option maxRecDepth 100000 in
theorem entries_no (a : Int) (A : Option Addr) (m cap : Nat) (zs : List Int) (w : World) (hz : Rd w A (vi .i64 zs)) (hl : zs.length = m) (hm : m ≤ 5000) (hno : ¬ okL zs) (hab : 0 ≤ a ∧ a ≤ 100000) :
    Ret Tryd.prog 36 [.int .i64 a, .slice A m cap] w (fun v w' => v = .tuple #[.slice none 0 0, .bool false] ∧ Below w.heap.size w w') := by
  refine ret_enter Tryd.func36 rfl rfl rfl ?_
  have H0 := HS.start w
  refine cw_seq ?_
  refine cw_reg ?_
  refine ry (y_asg rfl rfl) rfl rfl ?_
  refine ry (y_asg rfl rfl) rfl rfl ?_
  refine reg_nil ?_
  refine fn_next ?_
  refine cw_seq ?_
  refine cw_reg ?_
  refine ry (y_asg rfl rfl) rfl rfl ?_
  refine reg_nil ?_
  refine fn_next ?_
  refine cw_seq ?_
  refine cw_seq ?_
  refine cw_reg ?_
  refine ry (y_mov rfl rfl) rfl rfl ?_
  refine ry (y_len rfl Tryd.underlying39 rfl) rfl rfl ?_
  refine ry (y_mov rfl rfl) rfl rfl ?_
  refine reg_nil ?_
  refine fn_next ?_
  refine cw_block ?_
  have Hn := H0.nilrow 83 2
  refine cw_loopJ [0, 4, 5, 6, 8, 11, 12, 13, 14, 15, 16, 17, 18, 19, 20, 21, 22, 23, 24, 25, 26, 27, 28, 29, 30] (fun M wl ml => ∃ (i : Nat) (A' : Option Addr) (cap' : Nat), M = [(0, .int .i64 (a + sumL (zs.take i))), (6, .slice A' i cap'), (11, .int .i64 (i : Int))] ∧ HS w wl [.row A' i cap' (vi .i64 (entF a (zs.take i))) 83 2] ∧ (i ≤ m) ∧ (Hid (okL (zs.take i))) ∧ ml = m - i) ⟨0, none, 0, rfl, Hn, Nat.zero_le _, Lib.hid (fun x hx => by simp at hx), rfl⟩ ⟨si (by simp [sumL]), rfl, rfl, trivial⟩ ?_
  rintro M w1 m3 ⟨i, A', cap', rfl, H2, hp0, hp1, rfl⟩
  refine cw_seq ?_
  refine cw_reg ?_
  refine ry (y_lss rfl rfl rfl) rfl rfl ?_
  refine reg_nil ?_
  refine fn_next ?_
  refine cw_seq ?_
  refine cw_condd rfl (fun h4 => ?_) (fun h4 => ?_)
  · skip
    have hil : i < zs.length := by omega
    have hge := vi_get (k := .i64) hil
    have htk := take_succ_nth hil
    have htl : (zs.take i).length ≤ i := List.length_take_le _ _
    have hsb := sumL_bd hp1.out
    refine cw_skip ?_
    refine fn_next ?_
    refine cw_seq ?_
    refine cw_block ?_
    refine cw_seq ?_
    refine cw_reg ?_
    refine ry (y_iar (hz.below H2.base) rfl rfl rfl kfdir1_1 (rfl) (by omega) (Nat.mul_one _) (hge)) rfl rfl ?_
    refine ry (y_ldr (hz.below H2.base) rfl rfl kfdir1_2 (hge)) rfl rfl ?_
    refine ry (y_asg rfl rfl) rfl rfl ?_
    refine reg_nil ?_
    refine fn_next ?_
    refine cw_seq ?_
    refine cw_seq ?_
    refine cw_reg ?_
    refine ry (y_mov rfl rfl) rfl rfl ?_
    refine ry (y_lss rfl rfl rfl) rfl rfl ?_
    refine ry (y_mov rfl rfl) rfl rfl ?_
    refine rg_splitd (d := 17) rfl (fun h5 => ?_) (fun h5 => ?_)
    · skip
      refine rg_off rfl rfl rfl rfl rfl ?_
      refine rg_off rfl rfl rfl rfl rfl ?_
      refine ry (y_pick rfl rfl rfl) rfl rfl ?_
      refine reg_nil ?_
      refine fn_next ?_
      refine cw_condt rfl ?_
      refine cw_seq ?_
      refine cw_reg ?_
      refine ry (y_asg rfl rfl) rfl rfl ?_
      refine ry (y_asg rfl rfl) rfl rfl ?_
      refine reg_nil ?_
      refine fn_next ?_
      refine cw_ret ?_
      refine fn_then_ret (fn_block_ret (fn_then_ret (fn_then_ret (fn_block_ret (fn_then_ret ?_)))))
      refine fn_retn (vs := [_, _]) rfl ⟨rfl, rfl, trivial⟩ rfl ?_
      exact ⟨rfl, H2.base⟩
    · skip
      refine rgy (y_mov rfl rfl) rfl rfl rfl rfl ?_
      refine rgy (y_gtr rfl rfl rfl) rfl rfl rfl rfl ?_
      refine ry (y_pick rfl rfl rfl) rfl rfl ?_
      refine reg_nil ?_
      refine fn_next ?_
      refine cw_condd rfl (fun h6 => ?_) (fun h6 => ?_)
      · skip
        refine cw_seq ?_
        refine cw_reg ?_
        refine ry (y_asg rfl rfl) rfl rfl ?_
        refine ry (y_asg rfl rfl) rfl rfl ?_
        refine reg_nil ?_
        refine fn_next ?_
        refine cw_ret ?_
        refine fn_then_ret (fn_block_ret (fn_then_ret (fn_then_ret (fn_block_ret (fn_then_ret ?_)))))
        refine fn_retn (vs := [_, _]) rfl ⟨rfl, rfl, trivial⟩ rfl ?_
        exact ⟨rfl, H2.base⟩
      · skip
        refine cw_skip ?_
        refine fn_next ?_
        refine cw_seq ?_
        refine cw_reg ?_
        refine ry (y_mov rfl rfl) rfl rfl ?_
        refine ry (y_mov rfl rfl) rfl rfl ?_
        refine ry (y_mov rfl rfl) rfl rfl ?_
        refine ry (y_build (places := [(0, 1), (1, 1)]) (parts := [(0, _), (1, _)]) (vs := [(0, _), (1, _)]) (cs := [.int _ _, .int _ _]) rfl Tryd.underlying83 (by kernel_rfl) kfdir1_3 rfl ⟨rfl, rfl, trivial⟩ rfl) rfl rfl ?_
        refine reg_op (op_lit (parts := [(0, _)]) (vs := [(0, _)]) (cs := [.int _ _, .int _ _]) H2 rfl Tryd.underlying78 kfdir1_4 rfl ⟨rfl, trivial⟩ rfl rfl) rfl rfl ?_
        rintro _ w8 ⟨b7, rfl, H9⟩
        have H10 := H9.asrow (m := 1) (size := 2) rfl (by decide)
        refine reg_op (op_app (i := 1) H10 rfl rfl rfl rfl (H10.rd (i := 0) rfl) (rfl) (rfl) Tryd.underlying78 kfdir1_5 rfl rfl (by unfold maxLen; omega) (by omega)) rfl rfl ?_
        rintro _ w13 ⟨A11, c12, rfl, H14⟩
        refine ry (y_asg rfl rfl) rfl rfl ?_
        refine reg_nil ?_
        refine fn_next ?_
        refine cw_reg ?_
        refine ry (y_mov rfl rfl) rfl rfl ?_
        refine ry (y_mov rfl rfl) rfl rfl ?_
        refine ry (y_add rfl rfl rfl (wi (by omega))) rfl rfl ?_
        refine ry (y_asg rfl rfl) rfl rfl ?_
        refine reg_nil ?_
        refine fn_block ?_
        refine fn_next ?_
        refine cw_reg ?_
        refine ry (y_add rfl rfl rfl (wi (by omega))) rfl rfl ?_
        refine ry (y_mov rfl rfl) rfl rfl ?_
        refine reg_nil ?_
        rw [vi_app2, ← entF_snoc, ← htk] at H14
        refine fn_roundJ ⟨i + 1, _, _, rfl, (H14.pick [1] rfl (by decide)), by omega, Lib.hid (by rw [htk]; exact okL_snoc hp1.out (by omega)), rfl⟩ ⟨si (by rw [htk, sumL_snoc]; omega), rfl, rfl, trivial⟩ (by omega) (by repeat (first | exact kp_refl | refine kp_app rfl rfl ?_ | refine kp_cons rfl ?_)) rfl
  · skip
    have hie : zs.take i = zs := List.take_of_length_le (by omega)
    exact absurd (by rw [hie] at hp1; exact hp1.out) hno

set_option maxRecDepth 100000 in
theorem must_any (A : Option Addr) (m cap : Nat) (zs : List Int) (k : Nat) (u : Int) (w : World) (hr : Rd w A (vi .u8 zs)) (hl : zs.length = m) (hm : m ≤ 1000000) (h1 : 1 ≤ k) (h2 : k ≤ 8) (hu : 0 ≤ u ∧ u ≤ 9223372036854775807) (hz : u / 256 ^ k = 0) :
    Ret Tryd.prog 37 [.slice A m cap, .int .i64 (k : Int), .int .i64 u] w (fun v w' => ∃ A' cap', v = .slice A' (m + k) cap' ∧ HS w w' [.row A' (m + k) cap' (vi .u8 (zs ++ dgs u k)) 5 1]) := by
  refine ret_enter Tryd.func37 rfl rfl rfl ?_
  have H0 := HS.start w
  refine cw_seq ?_
  refine cw_reg ?_
  refine ry (y_asg rfl rfl) rfl rfl ?_
  refine reg_nil ?_
  refine fn_next ?_
  refine cw_seq ?_
  refine cw_reg ?_
  refine ry (y_mov rfl rfl) rfl rfl ?_
  refine ry (y_mov rfl rfl) rfl rfl ?_
  refine ry (y_mov rfl rfl) rfl rfl ?_
  refine ry (y_conv rfl Tryd.underlying2 Tryd.underlying107 rfl (wu64 (by omega))) rfl rfl ?_
  refine reg_op (op_call (Put_fit A m cap zs k u _ (hr.below H0.base) hl hm h1 h2 (by omega) hz) rfl kfdir1_6 ⟨rfl, rfl, rfl, trivial⟩) rfl rfl ?_
  rintro _ w2 ⟨A4, c5, rfl, k1⟩
  have H3 := H0.call k1
  refine ry (y_mov rfl rfl) rfl rfl ?_
  refine ry (y_ext rfl rfl rfl) rfl rfl ?_
  refine ry (y_ext rfl rfl rfl) rfl rfl ?_
  refine ry (y_asg rfl rfl) rfl rfl ?_
  refine reg_nil ?_
  refine fn_next ?_
  refine cw_seq ?_
  refine cw_reg ?_
  refine ry (y_mov rfl rfl) rfl rfl ?_
  refine ry (y_asg rfl rfl) rfl rfl ?_
  refine reg_nil ?_
  refine fn_next ?_
  refine cw_ret ?_
  refine fn_ret1 rfl rfl ?_
  exact ⟨_, _, rfl, H3⟩

end Go.Proofs.YtbnjbgcadkdljaaDoor
