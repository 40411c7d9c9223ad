/- Layer 5: the laws. -/
import Derived.Test.YtbnjbgcadkdljaaRef5b
import Derived.Test.YtbnjbgcadkdljaaK17
set_option linter.unusedVariables false
set_option linter.unusedSimpArgs false
namespace Go.Proofs.Ytbnjbgcadkdljaa
open Go Go.RowKit
theorem kflaw5_1 : (Try.prog.info? 2).map (fun i => (i.size, i.zero.map Value.cells)) = some (1, some (List.toArray [(.int .i64 0)])) := by kernel_rfl
theorem kflaw5_2 : callB Try.prog 14 = true := by kernel_rfl
theorem kflaw5_3 : callB Try.prog 9 = true := by kernel_rfl
theorem kflaw5_4 : callB Try.prog 15 = true := by kernel_rfl
theorem kflaw5_5 : callB Try.prog 10 = true := by kernel_rfl
theorem kflaw5_6 : (Try.prog.info? 5).map (fun i => (i.size, i.zero.map Value.cells)) = some (1, some (List.toArray [(.int .u8 0)])) := by kernel_rfl
theorem kflaw5_7 : (Try.prog.info? 5).map (fun i => (i.zero.map (·.cells.toList), i.size, i.bytes)) = some (some [(.int .u8 0)], 1, 1) := by kernel_rfl
theorem kflaw5_8 : callB Try.prog 11 = true := by kernel_rfl
theorem kflaw5_9 : callB Try.prog 13 = true := by kernel_rfl
theorem kflaw5_10 : callB Try.prog 12 = true := by kernel_rfl
theorem kflaw5_11 : elB Try.prog 27 1 = true := by kernel_rfl
theorem kflaw5_12 : (Try.prog.info? 2).map (fun i => (i.zero.map (·.cells.toList), i.size, i.bytes)) = some (some [(.int .i64 0)], 1, 8) := by kernel_rfl
theorem kflaw5_13 : elB Try.prog 23 1 = true := by kernel_rfl
theorem kflaw5_14 : oneB Try.prog 2 = true := by kernel_rfl
theorem rgP_fun {bs : List Int} {q p x1 e1 x2 e2 : Int} {z1 z2 : List Int} (h1 : rgP bs q p z1 x1 e1) (h2 : rgP bs q p z2 x2 e2) : z1 = z2 ∧ x1 = x2 ∧ e1 = e2 := by
  rcases h1 with ⟨hb, rfl, rfl, rfl⟩ | ⟨a, n, rfl, rfl, ha, hn, h1⟩
  · rcases h2 with ⟨_, rfl, rfl, rfl⟩ | ⟨a, n, rfl, rfl, ha, hn, _⟩
    · exact ⟨rfl, rfl, rfl⟩
    · unfold rgBad at hb; omega
  · rcases h2 with ⟨hb, _⟩ | ⟨a', n', ea, en, _, _, h2⟩
    · unfold rgBad at hb; omega
    · obtain rfl : a = a' := by omega
      obtain rfl : n = n' := by omega
      rcases h1 with ⟨m, h1, rfl, rfl⟩ | ⟨h1, rfl, rfl, _⟩ <;> rcases h2 with ⟨m', h2, rfl, rfl⟩ | ⟨h2, rfl, rfl, _⟩ <;> rw [h1] at h2 <;> cases h2 <;> exact ⟨rfl, rfl, rfl⟩
theorem rgP_put {za zb zs z : List Int} {q p x e : Int} (h : rgP (za ++ runsB (rn zs 0) ++ zb) q p z x e) (hq : q = (za.length : Int)) (hp : p = (zs.length : Int)) (hI : allI zs) (hn : zs.length ≤ 1048576) : zs = z ∧ x = ((za ++ runsB (rn zs 0)).length : Int) ∧ e = 0 := by
  have hl : (za ++ runsB (rn zs 0) ++ zb).length = za.length + (runsB (rn zs 0)).length + zb.length := by rw [List.length_append, List.length_append]
  rcases h with ⟨hb, _⟩ | ⟨a, n, ea, en, _, _, h⟩
  · unfold rgBad at hb; omega
  · obtain rfl : a = za.length := by omega
    obtain rfl : n = zs.length := by omega
    have hg := rget_put (za ++ runsB (rn zs 0) ++ zb) zb zs.length (by omega) (zs.length + 1) zs [] za.length false (by simp) (by omega) hI (by rw [List.append_assoc, List.drop_left]) (fun h => by cases h)
    rcases h with ⟨m, h1, rfl, rfl⟩ | ⟨h1, _⟩
    · rw [h1] at hg
      simp only [List.nil_append, Except.ok.injEq, Prod.mk.injEq] at hg
      exact ⟨hg.1.symm, by rw [hg.2, List.length_append], rfl⟩
    · rw [h1] at hg; cases hg
theorem rgP_back {bs zs : List Int} {q p x : Int} (hB : okB bs) (h : rgP bs q p zs x 0) : ∃ a m : Nat, q = a ∧ x = m ∧ a ≤ m ∧ m ≤ bs.length ∧ (bs.drop a).take (m - a) = runsB (rn zs 0) ∧ allI zs ∧ zs.length ≤ 1048576 ∧ p = zs.length := by
  rcases h with ⟨_, _, _, h⟩ | ⟨a, n, rfl, rfl, ha, hn, h⟩
  · cases h
  · rcases h with ⟨m, h1, rfl, _⟩ | ⟨_, _, _, h⟩
    · obtain ⟨t, e1, e2, e3, e4, e5, _, e7⟩ := rget_got bs n hB (by omega) (n + 1) [] a false zs m ha (Nat.zero_le _) h1
      simp only [List.nil_append] at e1
      subst e1
      exact ⟨a, m, rfl, rfl, e3, e4, e5, e7, by omega, by omega⟩
    · exact absurd rfl h
theorem okB_app {a b : List Int} (ha : okB a) (hb : okB b) : okB (a ++ b) := fun z hz => (List.mem_append.1 hz).elim (ha z) (hb z)
theorem lebL_ok : ∀ (f : Nat) (u : Int), 0 ≤ u → u < 2 * 128 ^ f → okB (lebL f u)
  | 0, u, h0, h1, c, hc => by simp [lebL] at hc; subst hc; simp at h1; omega
  | f + 1, u, h0, h1, c, hc => by
    rw [lebL] at hc
    split at hc
    · simp at hc; subst hc; omega
    · rcases List.mem_cons.1 hc with rfl | hc
      · omega
      · exact lebL_ok f (u / 128) (by omega) (by rw [Int.pow_succ] at h1; omega) c hc
theorem runB_ok {k : Nat} {z : Int} (hk : k ≤ 2000000) (hz : -9223372036854775808 ≤ z ∧ z ≤ 9223372036854775807) : okB (runB k z) := by
  unfold runB
  split
  · intro c hc
    rcases List.mem_cons.1 hc with rfl | hc
    · omega
    · exact lebL_ok 9 _ (by omega) (by omega) c hc
  · exact lebL_ok 9 _ (fold_rng hz).1 (fold_rng hz).2
theorem runsB_ok {zs : List Int} (hI : allI zs) (hn : zs.length ≤ 2000000) : okB (runsB (rn zs 0)) := fun c hc => by
  unfold runsB at hc
  obtain ⟨r, hr, hc⟩ := List.mem_flatMap.1 hc
  have := rn_rng zs 0 hI r hr
  exact runB_ok (by omega) this.2 c hc
theorem runs_short {zs : List Int} (hn : zs.length ≤ 1000000) (h : ∀ j, j < zs.length → -4294967295 ≤ nth zs j ∧ nth zs j ≤ 4294967295) : (runsB (rn zs 0)).length ≤ 5 * zs.length := by
  have := rests_len zs 0 (by omega) (fun z hz => by
    obtain ⟨j, hj, rfl⟩ := List.mem_iff_getElem.1 hz
    have := h j hj
    rwa [nth_lt hj] at this)
  omega

theorem Put_ex (A : Option Addr) (c : Nat) (w : World) (h : Rd w A (vi .i64 [0, 0, 0, -1])) : Ret Try.prog 14 [.slice none 0 0, .slice A 4 c] w (fun v w' => ∃ A' c, v = .slice A' 3 c ∧ HS w w' [.row A' 3 c (vi .u8 [0, 2, 1]) 5 1]) := by
  have h := runsPut none A 0 0 4 c [] [0, 0, 0, -1] w rd_none rfl (by omega) h rfl (by omega) (by unfold allI; decide)
  have e : runsB (rn [0, 0, 0, -1] 0) = [0, 2, 1] := by decide
  rw [e] at h
  exact h

set_option maxRecDepth 100000 in
theorem awake5  (w : World) :
    Ret Try.prog 9 [] w (fun v w' => v = .bool true ∧ Below w.heap.size w w') := by
 refine ret_enter Try.func9 rfl rfl rfl ?_
 have H0 := HS.start w
 refine cw_seq ?_
 refine cw_reg ?_
 refine ry (y_asg rfl rfl) rfl rfl ?_
 refine reg_nil ?_
 refine fn_next ?_
 refine cw_seq ?_
 refine cw_reg ?_
 refine reg_op (op_lit (parts := [(0, _), (1, _), (2, _), (3, _)]) (vs := [(0, _), (1, _), (2, _), (3, _)]) (cs := [.int _ _, .int _ _, .int _ _, .int _ _]) H0 rfl Try.underlying23 kflaw5_1 rfl ⟨rfl, rfl, rfl, rfl, trivial⟩ rfl rfl) rfl rfl ?_
 rintro _ w2 ⟨b1, rfl, H3⟩
 have H4 := H3.asrow (m := 4) (size := 1) rfl (by decide)
 refine reg_op (op_call (Put_ex _ _ _ (H4.rd (i := 0) rfl)) rfl kflaw5_2 ⟨rfl, rfl, trivial⟩) rfl rfl ?_
 rintro _ w6 ⟨A8, c9, rfl, k5⟩
 have H7 := H4.call k5
 refine ry (y_str rfl Try.underlying27 Try.underlying5 Try.underlying9 rfl (H7.rd (i := 0) rfl) (rfl)) rfl rfl ?_
 refine ry (y_streq (b := [0, 2, 1]) rfl rfl rfl (by unfold Byt; decide) (by unfold Byt; decide)) rfl rfl ?_
 refine ry (y_asg rfl rfl) rfl rfl ?_
 refine reg_nil ?_
 refine fn_next ?_
 refine cw_ret ?_
 refine fn_ret1 rfl rfl ?_
 exact ⟨rfl, H7.base⟩

set_option maxRecDepth 100000 in
set_option maxHeartbeats 2000000 in
theorem runsPuts_any (Aa : Option Addr) (m ca : Nat) (za : List Int) (A : Option Addr) (n c : Nat) (zs : List Int) (Ab : Option Addr) (mb cb : Nat) (zb : List Int) (w : World) (ha : Rd w Aa (vi .u8 za)) (hal : za.length = m) (hBa : okB za) (hr : Rd w A (vi .i64 zs)) (hl : zs.length = n) (hI : allI zs) (hb : Rd w Ab (vi .u8 zb)) (hbl0 : zb.length = mb) (hBb : okB zb) :
    Ret Try.prog 5 [.slice Aa m ca, .slice A n c, .slice Ab mb cb] w (fun v w' => v = .bool true ∧ Below w.heap.size w w') := by
 refine ret_enter Try.func5 rfl rfl rfl ?_
 have H0 := HS.start w
 refine cw_seq ?_
 refine cw_reg ?_
 refine ry (y_asg rfl rfl) rfl rfl ?_
 refine reg_nil ?_
 refine fn_next ?_
 refine cw_seq ?_
 refine cw_seq ?_
 refine cw_reg ?_
 refine reg_op (op_call (awake5 _) rfl kflaw5_3 trivial) rfl rfl ?_
 rintro _ w2 ⟨rfl, e1⟩
 have H3 := H0.ext e1
 refine ry (y_not rfl rfl) rfl rfl ?_
 refine reg_nil ?_
 refine fn_next ?_
 refine cw_condf rfl ?_
 refine cw_skip ?_
 refine fn_next ?_
 refine cw_seq ?_
 refine cw_seq ?_
 refine cw_reg ?_
 refine ry (y_mov rfl rfl) rfl rfl ?_
 refine ry (y_len rfl Try.underlying23 rfl) rfl rfl ?_
 refine ry (y_gtr rfl rfl rfl) rfl rfl ?_
 refine ry (y_mov rfl rfl) rfl rfl ?_
 refine rg_splitd (d := 18) rfl (fun h4 => ?_) (fun h4 => ?_)
 ·skip
  refine rg_off rfl rfl rfl rfl rfl ?_
  refine rg_off rfl rfl rfl rfl rfl ?_
  refine rg_off rfl rfl rfl rfl rfl ?_
  refine ry (y_pick rfl rfl rfl) rfl rfl ?_
  refine ry (y_mov rfl rfl) rfl rfl ?_
  refine rg_off rfl rfl rfl rfl rfl ?_
  refine rg_off rfl rfl rfl rfl rfl ?_
  refine rg_off rfl rfl rfl rfl rfl ?_
  refine ry (y_pick rfl rfl rfl) rfl rfl ?_
  refine reg_nil ?_
  refine fn_next ?_
  refine cw_condt rfl ?_
  refine cw_seq ?_
  refine cw_reg ?_
  refine ry (y_asg rfl rfl) rfl rfl ?_
  refine reg_nil ?_
  refine fn_next ?_
  refine cw_ret ?_
  refine fn_then_ret ?_
  refine fn_ret1 rfl rfl ?_
  exact ⟨rfl, H3.base⟩
 ·skip
  refine rgy (y_mov rfl rfl) rfl rfl rfl rfl ?_
  refine rgy (y_len rfl Try.underlying27 rfl) rfl rfl rfl rfl ?_
  refine rgy (y_gtr rfl rfl rfl) rfl rfl rfl rfl ?_
  refine ry (y_pick rfl rfl rfl) rfl rfl ?_
  refine ry (y_mov rfl rfl) rfl rfl ?_
  refine rg_splitd (d := 23) rfl (fun h5 => ?_) (fun h5 => ?_)
  ·skip
   refine rg_off rfl rfl rfl rfl rfl ?_
   refine rg_off rfl rfl rfl rfl rfl ?_
   refine rg_off rfl rfl rfl rfl rfl ?_
   refine ry (y_pick rfl rfl rfl) rfl rfl ?_
   refine reg_nil ?_
   refine fn_next ?_
   refine cw_condt rfl ?_
   refine cw_seq ?_
   refine cw_reg ?_
   refine ry (y_asg rfl rfl) rfl rfl ?_
   refine reg_nil ?_
   refine fn_next ?_
   refine cw_ret ?_
   refine fn_then_ret ?_
   refine fn_ret1 rfl rfl ?_
   exact ⟨rfl, H3.base⟩
  ·skip
   refine rgy (y_mov rfl rfl) rfl rfl rfl rfl ?_
   refine rgy (y_len rfl Try.underlying27 rfl) rfl rfl rfl rfl ?_
   refine rgy (y_gtr rfl rfl rfl) rfl rfl rfl rfl ?_
   refine ry (y_pick rfl rfl rfl) rfl rfl ?_
   refine reg_nil ?_
   refine fn_next ?_
   refine cw_condd rfl (fun h6 => ?_) (fun h6 => ?_)
   ·skip
    refine cw_seq ?_
    refine cw_reg ?_
    refine ry (y_asg rfl rfl) rfl rfl ?_
    refine reg_nil ?_
    refine fn_next ?_
    refine cw_ret ?_
    refine fn_then_ret ?_
    refine fn_ret1 rfl rfl ?_
    exact ⟨rfl, H3.base⟩
   ·skip
    have hBr := runsB_ok hI (by omega)
    have hbl := runsB_len (rn zs 0)
    have hbl2 := (rn_len zs 0).2 rfl
    refine cw_skip ?_
    refine fn_next ?_
    refine cw_seq ?_
    refine cw_reg ?_
    refine ry (y_mov rfl rfl) rfl rfl ?_
    refine ry (y_mov rfl rfl) rfl rfl ?_
    refine reg_op (op_call (runsPut Aa A m ca n c za zs _ (ha.below H3.base) hal (by omega) (hr.below H3.base) hl (by omega) hI) rfl kflaw5_2 ⟨rfl, rfl, trivial⟩) rfl rfl ?_
    rintro _ w8 ⟨A10, c11, rfl, k7⟩
    have H9 := H3.call k7
    refine ry (y_asg rfl rfl) rfl rfl ?_
    refine reg_nil ?_
    refine fn_next ?_
    refine cw_seq ?_
    refine cw_reg ?_
    refine ry (y_mov rfl rfl) rfl rfl ?_
    refine reg_op (op_call (refBytes5 A n c zs _ (hr.below H9.base) hl (by omega) hI) rfl kflaw5_4 ⟨rfl, trivial⟩) rfl rfl ?_
    rintro _ w13 ⟨A15, c16, rfl, k12⟩
    have H14 := H9.call k12
    refine ry (y_asg rfl rfl) rfl rfl ?_
    refine reg_nil ?_
    refine fn_next ?_
    refine cw_seq ?_
    refine cw_seq ?_
    refine cw_reg ?_
    refine ry (y_mov rfl rfl) rfl rfl ?_
    refine ry (y_str rfl Try.underlying27 Try.underlying5 Try.underlying9 rfl (H14.rd (i := 1) rfl) (by rw [List.length_append]; omega)) rfl rfl ?_
    refine ry (y_mov rfl rfl) rfl rfl ?_
    refine ry (y_str rfl Try.underlying27 Try.underlying5 Try.underlying9 rfl (ha.below H14.base) (by omega)) rfl rfl ?_
    refine ry (y_mov rfl rfl) rfl rfl ?_
    refine ry (y_str rfl Try.underlying27 Try.underlying5 Try.underlying9 rfl (H14.rd (i := 0) rfl) (rfl)) rfl rfl ?_
    refine ry (y_strcat rfl rfl rfl (by omega)) rfl rfl ?_
    refine ry (yv (congrArg Value.bool (decide_eq_false (fun h => h rfl))) (y_strne rfl rfl rfl (okB_byt.1 (okB_app hBa hBr)) (okB_byt.1 (okB_app hBa hBr)))) rfl rfl ?_
    refine ry (y_mov rfl rfl) rfl rfl ?_
    refine rgy (y_mov rfl rfl) rfl rfl rfl rfl ?_
    refine rg_on rfl rfl rfl (op_call (runsLen A n c zs _ (hr.below H14.base) hl (by omega) hI) rfl kflaw5_5 ⟨rfl, trivial⟩) rfl ?_
    rintro _ w18 ⟨rfl, e17⟩
    have H19 := H14.ext e17
    refine rgy (y_mov rfl rfl) rfl rfl rfl rfl ?_
    refine rgy (y_len rfl Try.underlying27 rfl) rfl rfl rfl rfl ?_
    refine rgy (yv (congrArg Value.bool (decide_eq_false (fun h => h rfl))) (y_neq rfl rfl rfl)) rfl rfl rfl rfl ?_
    refine ry (y_pick rfl rfl rfl) rfl rfl ?_
    refine reg_nil ?_
    refine fn_next ?_
    refine cw_condf rfl ?_
    refine cw_skip ?_
    refine fn_next ?_
    refine cw_seq ?_
    refine cw_reg ?_
    refine reg_op (op_lit (parts := []) (vs := []) (cs := []) H19 rfl Try.underlying27 kflaw5_6 rfl trivial rfl rfl) rfl rfl ?_
    rintro _ w21 ⟨b20, rfl, H22⟩
    have H23 := H22.asrow (m := 0) (size := 1) rfl (by decide)
    refine ry (y_mov rfl rfl) rfl rfl ?_
    refine reg_op (op_app (i := 0) H23 rfl rfl rfl rfl (H23.rd (i := 2) rfl) (by rw [vi_len, Nat.mul_one, List.length_append]; omega) (vi_one) Try.underlying27 kflaw5_7 rfl rfl (by unfold maxLen; omega) (by omega)) rfl rfl ?_
    rintro _ w26 ⟨A24, c25, rfl, H27⟩
    refine ry (y_mov rfl rfl) rfl rfl ?_
    refine reg_op (op_app (i := 0) H27 rfl rfl rfl rfl (hb.below H27.base) (by rw [vi_len, Nat.mul_one]; omega) (vi_one) Try.underlying27 kflaw5_7 rfl rfl (by unfold maxLen; omega) (by omega)) rfl rfl ?_
    rintro _ w30 ⟨A28, c29, rfl, H31⟩
    refine ry (y_asg rfl rfl) rfl rfl ?_
    refine reg_nil ?_
    refine fn_next ?_
    refine cw_seq ?_
    refine cw_reg ?_
    refine ry (y_mov rfl rfl) rfl rfl ?_
    refine ry (y_mov rfl rfl) rfl rfl ?_
    refine ry (y_len rfl Try.underlying27 rfl) rfl rfl ?_
    refine ry (y_mov rfl rfl) rfl rfl ?_
    refine ry (y_len rfl Try.underlying23 rfl) rfl rfl ?_
    refine reg_op (op_call (runsGet _ _ _ _ _ (za ++ runsB (rn zs 0) ++ zb) _ (by rw [vi_app]; exact H31.rd (i := 0) rfl) (by rw [List.length_append, List.length_append]; omega) (H31.len (i := 0) rfl).2.1 (okB_app (okB_app hBa hBr) hBb) (by omega)) rfl kflaw5_8 ⟨rfl, rfl, rfl, trivial⟩) rfl rfl ?_
    rintro _ w33 ⟨A35, c36, zg, xg, eg, rfl, hP, k32⟩
    have H34 := H31.call k32
    obtain ⟨rfl, rfl, rfl⟩ := rgP_put hP (by omega) (by omega) hI (by omega)
    refine ry (y_mov rfl rfl) rfl rfl ?_
    refine ry (y_ext rfl rfl rfl) rfl rfl ?_
    refine ry (y_ext rfl rfl rfl) rfl rfl ?_
    refine ry (y_ext rfl rfl rfl) rfl rfl ?_
    refine ry (y_asg rfl rfl) rfl rfl ?_
    refine ry (y_asg rfl rfl) rfl rfl ?_
    refine ry (y_asg rfl rfl) rfl rfl ?_
    refine reg_nil ?_
    refine fn_next ?_
    refine cw_seq ?_
    refine cw_reg ?_
    refine ry (y_mov rfl rfl) rfl rfl ?_
    refine ry (y_mov rfl rfl) rfl rfl ?_
    refine reg_op (op_call (refSame4 _ _ _ _ _ _ zs zs _ (H34.rd (i := 0) rfl) rfl (hr.below H34.base) hl (by omega)) rfl kflaw5_9 ⟨rfl, rfl, trivial⟩) rfl rfl ?_
    rintro _ w38 ⟨rfl, e37⟩
    have H39 := H34.ext e37
    refine ry (y_mov rfl rfl) rfl rfl ?_
    refine rg_splitd (d := 66) rfl (fun h40 => ?_) (fun h40 => ?_)
    ·skip
     refine rgy (y_mov rfl rfl) rfl rfl rfl rfl ?_
     refine rgy (y_mov rfl rfl) rfl rfl rfl rfl ?_
     refine rgy (y_len rfl Try.underlying27 rfl) rfl rfl rfl rfl ?_
     refine rgy (y_eql rfl rfl rfl) rfl rfl rfl rfl ?_
     refine ry (y_pick rfl rfl rfl) rfl rfl ?_
     refine ry (y_mov rfl rfl) rfl rfl ?_
     refine rg_splitd (d := 72) rfl (fun h41 => ?_) (fun h41 => ?_)
     ·skip
      refine rgy (y_mov rfl rfl) rfl rfl rfl rfl ?_
      refine rgy (y_eql rfl rfl rfl) rfl rfl rfl rfl ?_
      refine ry (y_pick rfl rfl rfl) rfl rfl ?_
      refine ry (y_asg rfl rfl) rfl rfl ?_
      refine reg_nil ?_
      refine fn_next ?_
      refine cw_ret ?_
      refine fn_ret1 rfl rfl ?_
      exact ⟨by simp, H39.base⟩
     · exact absurd (by rw [List.length_append]; omega) h41
    · exact absurd rfl h40

set_option maxRecDepth 100000 in
set_option maxHeartbeats 2000000 in
theorem runsGets_any (A : Option Addr) (n c : Nat) (zb : List Int) (q p : Int) (w : World) (hb : Rd w A (vi .u8 zb)) (hl : zb.length = n) (hcap : n ≤ c) (hB : okB zb) (hq : I6 q) (hp : I6 p) :
    Ret Try.prog 4 [.slice A n c, .int .i64 q, .int .i64 p] w (fun v w' => v = .bool true ∧ Below w.heap.size w w') := by
 refine ret_enter Try.func4 rfl rfl rfl ?_
 have H0 := HS.start w
 refine cw_seq ?_
 refine cw_reg ?_
 refine ry (y_asg rfl rfl) rfl rfl ?_
 refine reg_nil ?_
 refine fn_next ?_
 refine cw_seq ?_
 refine cw_seq ?_
 refine cw_reg ?_
 refine reg_op (op_call (awake5 _) rfl kflaw5_3 trivial) rfl rfl ?_
 rintro _ w2 ⟨rfl, e1⟩
 have H3 := H0.ext e1
 refine ry (y_not rfl rfl) rfl rfl ?_
 refine reg_nil ?_
 refine fn_next ?_
 refine cw_condf rfl ?_
 refine cw_skip ?_
 refine fn_next ?_
 refine cw_seq ?_
 refine cw_seq ?_
 refine cw_reg ?_
 refine ry (y_mov rfl rfl) rfl rfl ?_
 refine ry (y_len rfl Try.underlying27 rfl) rfl rfl ?_
 refine ry (y_gtr rfl rfl rfl) rfl rfl ?_
 refine ry (y_mov rfl rfl) rfl rfl ?_
 refine rg_splitd (d := 18) rfl (fun h4 => ?_) (fun h4 => ?_)
 ·skip
  refine rg_off rfl rfl rfl rfl rfl ?_
  refine rg_off rfl rfl rfl rfl rfl ?_
  refine rg_off rfl rfl rfl rfl rfl ?_
  refine rg_offu rfl rfl rfl rfl ?_
  refine rg_offu rfl rfl rfl rfl ?_
  refine rg_off rfl rfl rfl rfl rfl ?_
  refine ry (y_pick rfl rfl rfl) rfl rfl ?_
  refine reg_nil ?_
  refine fn_next ?_
  refine cw_condt rfl ?_
  refine cw_seq ?_
  refine cw_reg ?_
  refine ry (y_asg rfl rfl) rfl rfl ?_
  refine reg_nil ?_
  refine fn_next ?_
  refine cw_ret ?_
  refine fn_then_ret ?_
  refine fn_ret1 rfl rfl ?_
  exact ⟨rfl, H3.base⟩
 ·skip
  refine rgy (y_mov rfl rfl) rfl rfl rfl rfl ?_
  refine rgy (y_gtr rfl rfl rfl) rfl rfl rfl rfl ?_
  refine rgy (y_mov rfl rfl) rfl rfl rfl rfl ?_
  refine rg_splitd (d := 21) rfl (fun h5 => ?_) (fun h5 => ?_)
  ·skip
   refine rgy (y_mov rfl rfl) rfl rfl rfl rfl ?_
   refine rgy (y_leq rfl rfl rfl) rfl rfl rfl rfl ?_
   refine rgy (y_pick rfl rfl rfl) rfl rfl rfl rfl ?_
   refine ry (y_pick rfl rfl rfl) rfl rfl ?_
   refine reg_nil ?_
   refine fn_next ?_
   refine cw_condd rfl (fun h6 => ?_) (fun h6 => ?_)
   ·skip
    refine cw_seq ?_
    refine cw_reg ?_
    refine ry (y_asg rfl rfl) rfl rfl ?_
    refine reg_nil ?_
    refine fn_next ?_
    refine cw_ret ?_
    refine fn_then_ret ?_
    refine fn_ret1 rfl rfl ?_
    exact ⟨rfl, H3.base⟩
   ·skip
    refine cw_skip ?_
    refine fn_next ?_
    refine cw_seq ?_
    refine cw_reg ?_
    refine ry (y_mov rfl rfl) rfl rfl ?_
    refine ry (y_mov rfl rfl) rfl rfl ?_
    refine ry (y_mov rfl rfl) rfl rfl ?_
    refine reg_op (op_call (runsGet A n c q p zb _ (hb.below H3.base) hl hcap hB (by omega)) rfl kflaw5_8 ⟨rfl, rfl, rfl, trivial⟩) rfl rfl ?_
    rintro _ w8 ⟨A10, c11, z1, x1, e1, rfl, hP1, k7⟩
    have H9 := H3.call k7
    refine ry (y_mov rfl rfl) rfl rfl ?_
    refine ry (y_ext rfl rfl rfl) rfl rfl ?_
    refine ry (y_ext rfl rfl rfl) rfl rfl ?_
    refine ry (y_ext rfl rfl rfl) rfl rfl ?_
    refine ry (y_asg rfl rfl) rfl rfl ?_
    refine ry (y_asg rfl rfl) rfl rfl ?_
    refine ry (y_asg rfl rfl) rfl rfl ?_
    refine reg_nil ?_
    refine fn_next ?_
    refine cw_seq ?_
    refine cw_reg ?_
    refine ry (y_mov rfl rfl) rfl rfl ?_
    refine ry (y_mov rfl rfl) rfl rfl ?_
    refine ry (y_mov rfl rfl) rfl rfl ?_
    refine reg_op (op_call (refGet5 A n c q p zb _ (hb.below H9.base) hl hcap hB (by omega)) rfl kflaw5_10 ⟨rfl, rfl, rfl, trivial⟩) rfl rfl ?_
    rintro _ w13 ⟨A15, c16, z2, x2, e2, rfl, hP2, k12⟩
    have H14 := H9.call k12
    obtain ⟨rfl, rfl, rfl⟩ := rgP_fun hP1 hP2
    refine ry (y_mov rfl rfl) rfl rfl ?_
    refine ry (y_ext rfl rfl rfl) rfl rfl ?_
    refine ry (y_ext rfl rfl rfl) rfl rfl ?_
    refine ry (y_ext rfl rfl rfl) rfl rfl ?_
    refine ry (y_asg rfl rfl) rfl rfl ?_
    refine ry (y_asg rfl rfl) rfl rfl ?_
    refine ry (y_asg rfl rfl) rfl rfl ?_
    refine reg_nil ?_
    refine fn_next ?_
    refine cw_seq ?_
    refine cw_seq ?_
    refine cw_reg ?_
    refine ry (y_mov rfl rfl) rfl rfl ?_
    refine ry (y_mov rfl rfl) rfl rfl ?_
    have hzl : z1.length ≤ 2000000 := by rcases hP1 with ⟨_, rfl, _⟩ | ⟨a, n', _, _, _, hn', ⟨m', hm', _⟩ | ⟨_, rfl, _⟩⟩; all_goals first | (show 0 ≤ 2000000; omega) | (obtain ⟨t, e1, e2, _⟩ := rget_got zb n' hB (by omega) (n' + 1) [] a false _ _ (by omega) (Nat.zero_le _) hm'; omega)
    have hzl : z1.length ≤ 2000000 := by rcases hP1 with ⟨_, rfl, _⟩ | ⟨a, n', _, _, _, hn', ⟨m', hm', _⟩ | ⟨_, rfl, _⟩⟩; all_goals first | (show 0 ≤ 2000000; omega) | (obtain ⟨t, e1, e2, _⟩ := rget_got zb n' hB (by omega) (n' + 1) [] a false _ _ (by omega) (Nat.zero_le _) hm'; omega)
    refine reg_op (op_call (refSame4 _ _ _ _ _ _ z1 z1 _ (H14.rd (i := 1) rfl) rfl (H14.rd (i := 0) rfl) rfl (by omega)) rfl kflaw5_9 ⟨rfl, rfl, trivial⟩) rfl rfl ?_
    rintro _ w18 ⟨rfl, e17⟩
    have H19 := H14.ext e17
    refine ry (y_notd rfl rfl) rfl rfl ?_
    refine ry (y_mov rfl rfl) rfl rfl ?_
    refine rg_splitd (d := 46) rfl (fun h20 => ?_) (fun h20 => ?_)
    · exact absurd rfl h20
    ·skip
     refine rgy (y_mov rfl rfl) rfl rfl rfl rfl ?_
     refine rgy (y_mov rfl rfl) rfl rfl rfl rfl ?_
     refine rgy (yv (congrArg Value.bool (decide_eq_false (fun h => h rfl))) (y_neq rfl rfl rfl)) rfl rfl rfl rfl ?_
     refine ry (y_pick rfl rfl rfl) rfl rfl ?_
     refine ry (y_mov rfl rfl) rfl rfl ?_
     refine rgy (y_mov rfl rfl) rfl rfl rfl rfl ?_
     refine rgy (y_mov rfl rfl) rfl rfl rfl rfl ?_
     refine rgy (yv (congrArg Value.bool (decide_eq_false (fun h => h rfl))) (y_neq rfl rfl rfl)) rfl rfl rfl rfl ?_
     refine ry (y_pick rfl rfl rfl) rfl rfl ?_
     refine reg_nil ?_
     refine fn_next ?_
     refine cw_condf rfl ?_
     refine cw_skip ?_
     refine fn_next ?_
     refine cw_seq ?_
     refine cw_draw H19 [0, 1, 2, 3, 6, 7, 8, 9, 10] [4, 5, 11, 12, 13] (fun X HX => HX) (by kernel_rfl) (by kernel_rfl) (by rfl) ?_
     simp only [pick, List.getElem?_cons_succ, List.getElem?_cons_zero]
     refine hk_y (fun Y HY => y_mov rfl rfl) rfl rfl ?_
     refine hk_y (fun Y HY => y_neq rfl rfl rfl) rfl rfl ?_
     refine hk_y (fun Y HY => y_mov rfl rfl) rfl rfl ?_
     refine hk_splitd tv_all (d := 58) rfl (fun h21 => ?_) (fun h21 => ?_)
     ·skip
      refine hk_off rfl rfl rfl rfl rfl ?_
      refine hk_off rfl rfl rfl rfl rfl ?_
      refine hk_off rfl rfl rfl rfl rfl ?_
      refine hk_off rfl rfl rfl rfl rfl ?_
      refine hk_off rfl rfl rfl rfl rfl ?_
      refine hk_off rfl rfl rfl rfl rfl ?_
      refine hk_nil ?_
      intro w22 H23
      refine tv_off rfl rfl rfl rfl rfl ?_
      refine ⟨H23, fun w24 e26 => ?_⟩
      have H25 := H23.ext e26
      refine tv_off rfl rfl rfl rfl rfl ?_
      refine ⟨H25, fun w27 e29 => ?_⟩
      have H28 := H25.ext e29
      refine tv_off rfl rfl rfl rfl rfl ?_
      refine ⟨H28, fun w30 e32 => ?_⟩
      have H31 := H28.ext e32
      refine tv_op (Yd.op (y_pick rfl rfl rfl)) rfl rfl ?_
      rintro _ _ ⟨rfl, rfl⟩
      refine ⟨H31, fun w33 e35 => ?_⟩
      have H34 := H31.ext e35
      refine tv_op (Yd.op (y_asg rfl rfl)) rfl rfl ?_
      rintro _ _ ⟨rfl, rfl⟩
      refine ⟨H34, fun w36 e38 => ?_⟩
      have H37 := H34.ext e38
      refine tv_nil ?_
      refine fn_next ?_
      refine cw_ret ?_
      refine fn_ret1 rfl rfl ?_
      exact ⟨by first | rfl | (rw [hbk]; simp), H37.base⟩
     ·skip
      obtain rfl : e1 = 0 := by omega
      obtain ⟨a, m, rfl, rfl, ham, hmn, hbk, hI, hz, hpz⟩ := rgP_back hB hP1
      have hll : ((zb.drop a).take (m - a)).length = m - a := by rw [List.length_take, List.length_drop]; omega
      have hsub : Rd w (subA A c a 1) (vi .u8 ((zb.drop a).take (m - a))) := by
        have := Rd.slice (lo := a) (hi := m) (size := 1) (cap := c) hb (by omega) (by omega)
        rw [Nat.mul_one, Nat.mul_one, vi_take, vi_drop, List.drop_take] at this
        exact this
      have hok : okB ((zb.drop a).take (m - a)) := fun z hz => okB_drop hB a z (List.mem_of_mem_take hz)
      have hbl := runsB_len (rn z1 0)
      have hbl2 := (rn_len z1 0).2 rfl
      refine hk_on (qy_yd fun Y HY => y_mov rfl rfl) rfl rfl rfl rfl ?_
      refine hk_on (qy_yd fun Y HY => y_mov rfl rfl) rfl rfl rfl rfl ?_
      refine hk_on (qy_yd fun Y HY => y_mov rfl rfl) rfl rfl rfl rfl ?_
      refine hk_on (qy_yd fun Y HY => y_mov rfl rfl) rfl rfl rfl rfl ?_
      refine hk_on (qy_yd fun Y HY => y_slh (lo := a) (hi := m) rfl rfl rfl rfl kflaw5_11 (rfl) (rfl) (ham) (by omega)) rfl rfl rfl rfl ?_
      refine hk_on (qy_yd fun Y HY => y_str rfl Try.underlying27 Try.underlying5 Try.underlying9 rfl (hsub.below HY.base) (by rw [hll])) rfl rfl rfl rfl ?_
      refine hk_nil ?_
      intro w39 H40
      refine tv_on rfl rfl rfl (op_call (runsPut none _ 0 0 _ _ [] z1 _ rd_none rfl (by omega) (H40.rd (i := 1) rfl) rfl (by omega) hI) rfl kflaw5_2 ⟨rfl, rfl, trivial⟩) rfl ?_
      rintro _ w42 ⟨A44, c45, rfl, k41⟩
      have H43 := H40.call k41
      refine ⟨(H43.pick (m := [_, _]) [1, 2] rfl (by decide)), fun w46 e48 => ?_⟩
      have H47 := H43.ext e48
      refine tv_on rfl rfl rfl (Yd.op (y_str rfl Try.underlying27 Try.underlying5 Try.underlying9 rfl (H47.rd (i := 0) rfl) (by simp))) rfl ?_
      rintro _ _ ⟨rfl, rfl⟩
      refine ⟨(H47.pick (m := [_, _]) [1, 2] rfl (by decide)), fun w49 e51 => ?_⟩
      have H50 := H47.ext e51
      refine tv_on rfl rfl rfl (Yd.op (y_streq rfl rfl rfl (okB_byt.1 (okB_app (fun z h => by cases h) (runsB_ok hI (by omega)))) (okB_byt.1 hok))) rfl ?_
      rintro _ _ ⟨rfl, rfl⟩
      refine ⟨(H50.pick (m := [_, _]) [1, 2] rfl (by decide)), fun w52 e54 => ?_⟩
      have H53 := H50.ext e54
      refine tv_op (Yd.op (y_pick rfl rfl rfl)) rfl rfl ?_
      rintro _ _ ⟨rfl, rfl⟩
      refine ⟨(H53.pick (m := [_, _]) [1, 2] rfl (by decide)), fun w55 e57 => ?_⟩
      have H56 := H53.ext e57
      refine tv_op (Yd.op (y_asg rfl rfl)) rfl rfl ?_
      rintro _ _ ⟨rfl, rfl⟩
      refine ⟨(H56.pick (m := [_, _]) [1, 2] rfl (by decide)), fun w58 e60 => ?_⟩
      have H59 := H56.ext e60
      refine tv_nil ?_
      refine fn_next ?_
      refine cw_ret ?_
      refine fn_ret1 rfl rfl ?_
      exact ⟨by first | rfl | (rw [hbk]; simp), H59.base⟩
  ·skip
   refine rg_off rfl rfl rfl rfl rfl ?_
   refine rg_off rfl rfl rfl rfl rfl ?_
   refine rgy (y_pick rfl rfl rfl) rfl rfl rfl rfl ?_
   refine ry (y_pick rfl rfl rfl) rfl rfl ?_
   refine reg_nil ?_
   refine fn_next ?_
   refine cw_condf rfl ?_
   refine cw_skip ?_
   refine fn_next ?_
   refine cw_seq ?_
   refine cw_reg ?_
   refine ry (y_mov rfl rfl) rfl rfl ?_
   refine ry (y_mov rfl rfl) rfl rfl ?_
   refine ry (y_mov rfl rfl) rfl rfl ?_
   refine reg_op (op_call (runsGet A n c q p zb _ (hb.below H3.base) hl hcap hB (by omega)) rfl kflaw5_8 ⟨rfl, rfl, rfl, trivial⟩) rfl rfl ?_
   rintro _ w62 ⟨A64, c65, z1, x1, e1, rfl, hP1, k61⟩
   have H63 := H3.call k61
   refine ry (y_mov rfl rfl) rfl rfl ?_
   refine ry (y_ext rfl rfl rfl) rfl rfl ?_
   refine ry (y_ext rfl rfl rfl) rfl rfl ?_
   refine ry (y_ext rfl rfl rfl) rfl rfl ?_
   refine ry (y_asg rfl rfl) rfl rfl ?_
   refine ry (y_asg rfl rfl) rfl rfl ?_
   refine ry (y_asg rfl rfl) rfl rfl ?_
   refine reg_nil ?_
   refine fn_next ?_
   refine cw_seq ?_
   refine cw_reg ?_
   refine ry (y_mov rfl rfl) rfl rfl ?_
   refine ry (y_mov rfl rfl) rfl rfl ?_
   refine ry (y_mov rfl rfl) rfl rfl ?_
   refine reg_op (op_call (refGet5 A n c q p zb _ (hb.below H63.base) hl hcap hB (by omega)) rfl kflaw5_10 ⟨rfl, rfl, rfl, trivial⟩) rfl rfl ?_
   rintro _ w67 ⟨A69, c70, z2, x2, e2, rfl, hP2, k66⟩
   have H68 := H63.call k66
   obtain ⟨rfl, rfl, rfl⟩ := rgP_fun hP1 hP2
   refine ry (y_mov rfl rfl) rfl rfl ?_
   refine ry (y_ext rfl rfl rfl) rfl rfl ?_
   refine ry (y_ext rfl rfl rfl) rfl rfl ?_
   refine ry (y_ext rfl rfl rfl) rfl rfl ?_
   refine ry (y_asg rfl rfl) rfl rfl ?_
   refine ry (y_asg rfl rfl) rfl rfl ?_
   refine ry (y_asg rfl rfl) rfl rfl ?_
   refine reg_nil ?_
   refine fn_next ?_
   refine cw_seq ?_
   refine cw_seq ?_
   refine cw_reg ?_
   refine ry (y_mov rfl rfl) rfl rfl ?_
   refine ry (y_mov rfl rfl) rfl rfl ?_
   have hzl : z1.length ≤ 2000000 := by rcases hP1 with ⟨_, rfl, _⟩ | ⟨a, n', _, _, _, hn', ⟨m', hm', _⟩ | ⟨_, rfl, _⟩⟩; all_goals first | (show 0 ≤ 2000000; omega) | (obtain ⟨t, e1, e2, _⟩ := rget_got zb n' hB (by omega) (n' + 1) [] a false _ _ (by omega) (Nat.zero_le _) hm'; omega)
   have hzl : z1.length ≤ 2000000 := by rcases hP1 with ⟨_, rfl, _⟩ | ⟨a, n', _, _, _, hn', ⟨m', hm', _⟩ | ⟨_, rfl, _⟩⟩; all_goals first | (show 0 ≤ 2000000; omega) | (obtain ⟨t, e1, e2, _⟩ := rget_got zb n' hB (by omega) (n' + 1) [] a false _ _ (by omega) (Nat.zero_le _) hm'; omega)
   refine reg_op (op_call (refSame4 _ _ _ _ _ _ z1 z1 _ (H68.rd (i := 1) rfl) rfl (H68.rd (i := 0) rfl) rfl (by omega)) rfl kflaw5_9 ⟨rfl, rfl, trivial⟩) rfl rfl ?_
   rintro _ w72 ⟨rfl, e71⟩
   have H73 := H68.ext e71
   refine ry (y_notd rfl rfl) rfl rfl ?_
   refine ry (y_mov rfl rfl) rfl rfl ?_
   refine rg_splitd (d := 46) rfl (fun h74 => ?_) (fun h74 => ?_)
   · exact absurd rfl h74
   ·skip
    refine rgy (y_mov rfl rfl) rfl rfl rfl rfl ?_
    refine rgy (y_mov rfl rfl) rfl rfl rfl rfl ?_
    refine rgy (yv (congrArg Value.bool (decide_eq_false (fun h => h rfl))) (y_neq rfl rfl rfl)) rfl rfl rfl rfl ?_
    refine ry (y_pick rfl rfl rfl) rfl rfl ?_
    refine ry (y_mov rfl rfl) rfl rfl ?_
    refine rgy (y_mov rfl rfl) rfl rfl rfl rfl ?_
    refine rgy (y_mov rfl rfl) rfl rfl rfl rfl ?_
    refine rgy (yv (congrArg Value.bool (decide_eq_false (fun h => h rfl))) (y_neq rfl rfl rfl)) rfl rfl rfl rfl ?_
    refine ry (y_pick rfl rfl rfl) rfl rfl ?_
    refine reg_nil ?_
    refine fn_next ?_
    refine cw_condf rfl ?_
    refine cw_skip ?_
    refine fn_next ?_
    refine cw_seq ?_
    refine cw_draw H73 [0, 1, 2, 3, 6, 7, 8, 9, 10] [4, 5, 11, 12, 13] (fun X HX => HX) (by kernel_rfl) (by kernel_rfl) (by rfl) ?_
    simp only [pick, List.getElem?_cons_succ, List.getElem?_cons_zero]
    refine hk_y (fun Y HY => y_mov rfl rfl) rfl rfl ?_
    refine hk_y (fun Y HY => y_neq rfl rfl rfl) rfl rfl ?_
    refine hk_y (fun Y HY => y_mov rfl rfl) rfl rfl ?_
    refine hk_splitd tv_all (d := 58) rfl (fun h75 => ?_) (fun h75 => ?_)
    ·skip
     refine hk_off rfl rfl rfl rfl rfl ?_
     refine hk_off rfl rfl rfl rfl rfl ?_
     refine hk_off rfl rfl rfl rfl rfl ?_
     refine hk_off rfl rfl rfl rfl rfl ?_
     refine hk_off rfl rfl rfl rfl rfl ?_
     refine hk_off rfl rfl rfl rfl rfl ?_
     refine hk_nil ?_
     intro w76 H77
     refine tv_off rfl rfl rfl rfl rfl ?_
     refine ⟨H77, fun w78 e80 => ?_⟩
     have H79 := H77.ext e80
     refine tv_off rfl rfl rfl rfl rfl ?_
     refine ⟨H79, fun w81 e83 => ?_⟩
     have H82 := H79.ext e83
     refine tv_off rfl rfl rfl rfl rfl ?_
     refine ⟨H82, fun w84 e86 => ?_⟩
     have H85 := H82.ext e86
     refine tv_op (Yd.op (y_pick rfl rfl rfl)) rfl rfl ?_
     rintro _ _ ⟨rfl, rfl⟩
     refine ⟨H85, fun w87 e89 => ?_⟩
     have H88 := H85.ext e89
     refine tv_op (Yd.op (y_asg rfl rfl)) rfl rfl ?_
     rintro _ _ ⟨rfl, rfl⟩
     refine ⟨H88, fun w90 e92 => ?_⟩
     have H91 := H88.ext e92
     refine tv_nil ?_
     refine fn_next ?_
     refine cw_ret ?_
     refine fn_ret1 rfl rfl ?_
     exact ⟨by first | rfl | (rw [hbk]; simp), H91.base⟩
    ·skip
     obtain rfl : e1 = 0 := by omega
     obtain ⟨a, m, rfl, rfl, ham, hmn, hbk, hI, hz, hpz⟩ := rgP_back hB hP1
     have hll : ((zb.drop a).take (m - a)).length = m - a := by rw [List.length_take, List.length_drop]; omega
     have hsub : Rd w (subA A c a 1) (vi .u8 ((zb.drop a).take (m - a))) := by
       have := Rd.slice (lo := a) (hi := m) (size := 1) (cap := c) hb (by omega) (by omega)
       rw [Nat.mul_one, Nat.mul_one, vi_take, vi_drop, List.drop_take] at this
       exact this
     have hok : okB ((zb.drop a).take (m - a)) := fun z hz => okB_drop hB a z (List.mem_of_mem_take hz)
     have hbl := runsB_len (rn z1 0)
     have hbl2 := (rn_len z1 0).2 rfl
     refine hk_on (qy_yd fun Y HY => y_mov rfl rfl) rfl rfl rfl rfl ?_
     refine hk_on (qy_yd fun Y HY => y_mov rfl rfl) rfl rfl rfl rfl ?_
     refine hk_on (qy_yd fun Y HY => y_mov rfl rfl) rfl rfl rfl rfl ?_
     refine hk_on (qy_yd fun Y HY => y_mov rfl rfl) rfl rfl rfl rfl ?_
     refine hk_on (qy_yd fun Y HY => y_slh (lo := a) (hi := m) rfl rfl rfl rfl kflaw5_11 (rfl) (rfl) (ham) (by omega)) rfl rfl rfl rfl ?_
     refine hk_on (qy_yd fun Y HY => y_str rfl Try.underlying27 Try.underlying5 Try.underlying9 rfl (hsub.below HY.base) (by rw [hll])) rfl rfl rfl rfl ?_
     refine hk_nil ?_
     intro w93 H94
     refine tv_on rfl rfl rfl (op_call (runsPut none _ 0 0 _ _ [] z1 _ rd_none rfl (by omega) (H94.rd (i := 1) rfl) rfl (by omega) hI) rfl kflaw5_2 ⟨rfl, rfl, trivial⟩) rfl ?_
     rintro _ w96 ⟨A98, c99, rfl, k95⟩
     have H97 := H94.call k95
     refine ⟨(H97.pick (m := [_, _]) [1, 2] rfl (by decide)), fun w100 e102 => ?_⟩
     have H101 := H97.ext e102
     refine tv_on rfl rfl rfl (Yd.op (y_str rfl Try.underlying27 Try.underlying5 Try.underlying9 rfl (H101.rd (i := 0) rfl) (by simp))) rfl ?_
     rintro _ _ ⟨rfl, rfl⟩
     refine ⟨(H101.pick (m := [_, _]) [1, 2] rfl (by decide)), fun w103 e105 => ?_⟩
     have H104 := H101.ext e105
     refine tv_on rfl rfl rfl (Yd.op (y_streq rfl rfl rfl (okB_byt.1 (okB_app (fun z h => by cases h) (runsB_ok hI (by omega)))) (okB_byt.1 hok))) rfl ?_
     rintro _ _ ⟨rfl, rfl⟩
     refine ⟨(H104.pick (m := [_, _]) [1, 2] rfl (by decide)), fun w106 e108 => ?_⟩
     have H107 := H104.ext e108
     refine tv_op (Yd.op (y_pick rfl rfl rfl)) rfl rfl ?_
     rintro _ _ ⟨rfl, rfl⟩
     refine ⟨(H107.pick (m := [_, _]) [1, 2] rfl (by decide)), fun w109 e111 => ?_⟩
     have H110 := H107.ext e111
     refine tv_op (Yd.op (y_asg rfl rfl)) rfl rfl ?_
     rintro _ _ ⟨rfl, rfl⟩
     refine ⟨(H110.pick (m := [_, _]) [1, 2] rfl (by decide)), fun w112 e114 => ?_⟩
     have H113 := H110.ext e114
     refine tv_nil ?_
     refine fn_next ?_
     refine cw_ret ?_
     refine fn_ret1 rfl rfl ?_
     exact ⟨by first | rfl | (rw [hbk]; simp), H113.base⟩

set_option maxRecDepth 100000 in
set_option maxHeartbeats 2000000 in
theorem runsShort_any (q : Int) (k : Nat) (A : Option Addr) (n c : Nat) (zs : List Int) (w : World) (hk : q = (k : Int)) (hk2 : k ≤ 65535) (hr : Rd w A (vi .i64 zs)) (hl : zs.length = n) (hI : allI zs) :
    Ret Try.prog 3 [.int .u16 q, .slice A n c] w (fun v w' => v = .bool true ∧ Below w.heap.size w w') := by
 refine ret_enter Try.func3 rfl rfl rfl ?_
 have H0 := HS.start w
 refine cw_seq ?_
 refine cw_reg ?_
 refine ry (y_asg rfl rfl) rfl rfl ?_
 refine reg_nil ?_
 refine fn_next ?_
 refine cw_seq ?_
 refine cw_seq ?_
 refine cw_reg ?_
 refine reg_op (op_call (awake5 _) rfl kflaw5_3 trivial) rfl rfl ?_
 rintro _ w2 ⟨rfl, e1⟩
 have H3 := H0.ext e1
 refine ry (y_not rfl rfl) rfl rfl ?_
 refine reg_nil ?_
 refine fn_next ?_
 refine cw_condf rfl ?_
 refine cw_skip ?_
 refine fn_next ?_
 refine cw_seq ?_
 refine cw_seq ?_
 refine cw_reg ?_
 refine ry (y_mov rfl rfl) rfl rfl ?_
 refine ry (y_len rfl Try.underlying23 rfl) rfl rfl ?_
 refine ry (y_gtr rfl rfl rfl) rfl rfl ?_
 refine reg_nil ?_
 refine fn_next ?_
 refine cw_condd rfl (fun h4 => ?_) (fun h4 => ?_)
 ·skip
  refine cw_seq ?_
  refine cw_reg ?_
  refine ry (y_asg rfl rfl) rfl rfl ?_
  refine reg_nil ?_
  refine fn_next ?_
  refine cw_ret ?_
  refine fn_then_ret ?_
  refine fn_ret1 rfl rfl ?_
  exact ⟨rfl, H3.base⟩
 ·skip
  have hnl := noughts_len k (by omega)
  refine cw_skip ?_
  refine fn_next ?_
  refine cw_seq ?_
  refine cw_seq ?_
  refine cw_reg ?_
  refine ry (y_mov rfl rfl) rfl rfl ?_
  refine reg_op (op_make (m := k) H3 rfl rfl rfl (hk) (hk) Try.underlying23 kflaw5_12 (by omega) (by unfold maxLen; omega)) rfl rfl ?_
  rintro _ w6 ⟨b5, rfl, H7⟩
  refine reg_op (op_call (runsLen _ _ _ (List.replicate k 0) _ (by rw [← vi_zero]; exact H7.rd (i := 0) rfl) (List.length_replicate) (by omega) (fun z hz => by obtain ⟨_, rfl⟩ := List.mem_replicate.1 hz; omega)) rfl kflaw5_5 ⟨rfl, trivial⟩) rfl rfl ?_
  rintro _ w9 ⟨rfl, e8⟩
  have H10 := H7.ext e8
  refine ry (y_gtr rfl rfl rfl) rfl rfl ?_
  refine reg_nil ?_
  refine fn_next ?_
  refine cw_condd rfl (fun h11 => ?_) (fun h11 => ?_)
  · exfalso; omega
  ·skip
   refine cw_skip ?_
   refine fn_next ?_
   refine cw_seq ?_
   refine cw_seq ?_
   refine cw_reg ?_
   refine ry (y_asg rfl rfl) rfl rfl ?_
   refine reg_nil ?_
   refine fn_next ?_
   refine cw_block ?_
   refine cw_loopJ [4, 5, 15, 16, 17, 18, 19, 20, 21, 22, 23, 24, 25, 26, 27, 28, 29, 30, 31, 32] (fun M wl ml => ∃ (i : Nat), M = [(5, .int .i64 (i : Int))] ∧ HS w wl [] ∧ (i ≤ n) ∧ (∀ j, j < i → -4294967295 ≤ nth zs j ∧ nth zs j ≤ 4294967295) ∧ ml = n + 1 - i) ⟨0, rfl, (H10.pick (m := []) [] rfl (by decide)), Nat.zero_le _, fun j h => absurd h (Nat.not_lt_zero _), rfl⟩ ⟨rfl, trivial⟩ ?_
   rintro M w12 m14 ⟨i, rfl, H13, hin, hs, rfl⟩
   refine cw_seq ?_
   refine cw_seq ?_
   refine cw_reg ?_
   refine ry (y_mov rfl rfl) rfl rfl ?_
   refine ry (y_mov rfl rfl) rfl rfl ?_
   refine ry (y_len rfl Try.underlying23 rfl) rfl rfl ?_
   refine ry (y_lss rfl rfl rfl) rfl rfl ?_
   refine reg_nil ?_
   refine fn_next ?_
   refine cw_condd rfl (fun h15 => ?_) (fun h15 => ?_)
   ·skip
    have gz := vi_get (k := .i64) (zs := zs) (i := i) (by omega)
    refine cw_skip ?_
    refine fn_next ?_
    refine cw_seq ?_
    refine cw_block ?_
    refine cw_seq ?_
    refine cw_reg ?_
    refine ry (y_mov rfl rfl) rfl rfl ?_
    refine ry (y_mov rfl rfl) rfl rfl ?_
    refine ry (y_iar (hr.below H13.base) rfl rfl rfl kflaw5_13 (rfl) (by omega) (Nat.mul_one _) (gz)) rfl rfl ?_
    refine ry (y_ldr (hr.below H13.base) rfl rfl kflaw5_14 (gz)) rfl rfl ?_
    refine ry (y_gtr rfl rfl rfl) rfl rfl ?_
    refine ry (y_mov rfl rfl) rfl rfl ?_
    refine rg_splitd (d := 26) rfl (fun h16 => ?_) (fun h16 => ?_)
    ·skip
     refine rg_off rfl rfl rfl rfl rfl ?_
     refine rg_off rfl rfl rfl rfl rfl ?_
     refine rg_off rfl rfl rfl rfl rfl ?_
     refine rg_off rfl rfl rfl rfl rfl ?_
     refine rg_off rfl rfl rfl rfl rfl ?_
     refine ry (y_pick rfl rfl rfl) rfl rfl ?_
     refine reg_nil ?_
     refine fn_next ?_
     refine cw_condt rfl ?_
     refine cw_seq ?_
     refine cw_reg ?_
     refine ry (y_asg rfl rfl) rfl rfl ?_
     refine reg_nil ?_
     refine fn_next ?_
     refine cw_ret ?_
     refine fn_block_ret (fn_then_ret (fn_then_ret (fn_block_ret (fn_then_ret ?_))))
     refine fn_ret1 rfl rfl ?_
     exact ⟨rfl, H13.base⟩
    ·skip
     refine rgy (y_mov rfl rfl) rfl rfl rfl rfl ?_
     refine rgy (y_mov rfl rfl) rfl rfl rfl rfl ?_
     refine rgy (y_iar (hr.below H13.base) rfl rfl rfl kflaw5_13 (rfl) (by omega) (Nat.mul_one _) (gz)) rfl rfl rfl rfl ?_
     refine rgy (y_ldr (hr.below H13.base) rfl rfl kflaw5_14 (gz)) rfl rfl rfl rfl ?_
     refine rgy (y_lss rfl rfl rfl) rfl rfl rfl rfl ?_
     refine ry (y_pick rfl rfl rfl) rfl rfl ?_
     refine reg_nil ?_
     refine fn_next ?_
     refine cw_condd rfl (fun h17 => ?_) (fun h17 => ?_)
     ·skip
      refine cw_seq ?_
      refine cw_reg ?_
      refine ry (y_asg rfl rfl) rfl rfl ?_
      refine reg_nil ?_
      refine fn_next ?_
      refine cw_ret ?_
      refine fn_block_ret (fn_then_ret (fn_then_ret (fn_block_ret (fn_then_ret ?_))))
      refine fn_ret1 rfl rfl ?_
      exact ⟨rfl, H13.base⟩
     ·skip
      refine cw_skip ?_
      refine fn_block ?_
      refine fn_next ?_
      refine cw_reg ?_
      refine ry (y_mov rfl rfl) rfl rfl ?_
      refine ry (y_add rfl rfl rfl (wi (by omega))) rfl rfl ?_
      refine ry (y_asg rfl rfl) rfl rfl ?_
      refine reg_nil ?_
      refine fn_roundJ ⟨i + 1, rfl, H13, by omega, fun j hj => by rcases Nat.lt_succ_iff_lt_or_eq.1 hj with q | rfl; exact hs j q; omega, rfl⟩ ⟨rfl, trivial⟩ (by omega) (by repeat (first | exact kp_refl | refine kp_app rfl rfl ?_ | refine kp_cons rfl ?_)) rfl
   ·skip
    have hsh := runs_short (zs := zs) (by omega) (fun j hj => hs j (by omega))
    refine cw_exit ?_
    refine fn_then_exit (fn_then_exit (fn_block_exit ?_))
    refine fn_next ?_
    refine cw_seq ?_
    refine cw_reg ?_
    refine ry (y_mov rfl rfl) rfl rfl ?_
    refine reg_op (op_call (runsLen A n c zs _ (hr.below H13.base) hl (by omega) hI) rfl kflaw5_5 ⟨rfl, trivial⟩) rfl rfl ?_
    rintro _ w19 ⟨rfl, e18⟩
    have H20 := H13.ext e18
    refine ry (y_mov rfl rfl) rfl rfl ?_
    refine ry (y_len rfl Try.underlying23 rfl) rfl rfl ?_
    refine ry (y_mul rfl rfl rfl (wi (by omega))) rfl rfl ?_
    refine ry (y_leq rfl rfl rfl) rfl rfl ?_
    refine ry (y_asg rfl rfl) rfl rfl ?_
    refine reg_nil ?_
    refine fn_next ?_
    refine cw_ret ?_
    refine fn_ret1 rfl rfl ?_
    exact ⟨by rw [decide_eq_true (by omega)], H20.base⟩

theorem runsPuts_walk (za : List Int) (Aa : Option Addr) (m ca : Nat) (zs : List Int) (A : Option Addr) (n c : Nat) (zb : List Int) (Ab : Option Addr) (mb cb : Nat) (W : World) (ha : Ints .u8 W Aa m za) (h1 : m ≤ ca) (h2 : ca ≤ maxLen) (hBa : ∀ z ∈ za, 0 ≤ z ∧ z ≤ 255) (hr : Ints .i64 W A n zs) (h3 : n ≤ c) (h4 : c ≤ maxLen) (hI : ∀ z ∈ zs, -9223372036854775808 ≤ z ∧ z ≤ 9223372036854775807) (hb : Ints .u8 W Ab mb zb) (h5 : mb ≤ cb) (h6 : cb ≤ maxLen) (hBb : ∀ z ∈ zb, 0 ≤ z ∧ z ≤ 255) :
    Calls Try.prog 5 #[.slice Aa m ca, .slice A n c, .slice Ab mb cb] W fun e W' => e = .returned (.bool true) ∧ Below W.heap.size W W' :=
  lawOf (runsPuts_any Aa m ca za A n c zs Ab mb cb zb W (Rd.of_ints ha) ha.len hBa (Rd.of_ints hr) hr.len hI (Rd.of_ints hb) hb.len hBb)
theorem runsGets_walk (zb : List Int) (A : Option Addr) (n c : Nat) (q p : Int) (W : World) (hb : Ints .u8 W A n zb) (h1 : n ≤ c) (h2 : c ≤ maxLen) (hB : ∀ z ∈ zb, 0 ≤ z ∧ z ≤ 255) (hq : I6 q) (hp : I6 p) :
    Calls Try.prog 4 #[.slice A n c, .int .i64 q, .int .i64 p] W fun e W' => e = .returned (.bool true) ∧ Below W.heap.size W W' :=
  lawOf (runsGets_any A n c zb q p W (Rd.of_ints hb) hb.len h1 hB hq hp)
theorem runsShort_walk (q : Int) (zs : List Int) (A : Option Addr) (n c : Nat) (W : World) (hq0 : (Lit.int .u16 q).wf = true) (hr : Ints .i64 W A n zs) (h1 : n ≤ c) (h2 : c ≤ maxLen) (hI : ∀ z ∈ zs, -9223372036854775808 ≤ z ∧ z ≤ 9223372036854775807) :
    Calls Try.prog 3 #[.int .u16 q, .slice A n c] W fun e W' => e = .returned (.bool true) ∧ Below W.heap.size W W' :=
  have hq : 0 ≤ q ∧ q ≤ 65535 := by
    rw [Lit.wf_int_iff, show IntKind.u16.min = 0 from by decide, show IntKind.u16.max = 65535 from by decide] at hq0
    exact hq0
  lawOf (runsShort_any q q.toNat A n c zs W (by omega) (by omega) (Rd.of_ints hr) hr.len hI)

end Go.Proofs.Ytbnjbgcadkdljaa
