/- Layer 6: the best; the laws. -/
import Derived.Test.YtbnjbgcadkdljaaTile2
set_option linter.unusedVariables false
set_option linter.unusedSimpArgs false
namespace Go.Proofs.Ytbnjbgcadkdljaa
open Go Go.RowKit
theorem kftile3_1 : callB Try.prog 21 = true := by kernel_rfl
theorem kftile3_2 : callB Try.prog 34 = true := by kernel_rfl
theorem kftile3_3 : callB Try.prog 35 = true := by kernel_rfl
theorem kftile3_4 : callB Try.prog 10 = true := by kernel_rfl
theorem kftile3_5 : callB Try.prog 20 = true := by kernel_rfl
theorem tpF_inv {k w h : Int} {zs bs : List Int} {e : Int} (g : tpF k zs w h = (bs, e)) (he : e = 0) : tR w h ∧ kOk k ∧ ckF zs w h = 0 ∧ bs = k :: runsB (rn (restsL k zs w zs.length) 0) := by
  unfold tpF at g
  split at g
  · injection g with _ g; omega
  rename_i a
  split at g
  · injection g with _ g; omega
  rename_i b
  split at g
  · rename_i c; injection g with _ g; omega
  rename_i c
  injection g with g _
  exact ⟨Classical.not_not.1 a, Classical.not_not.1 b, Classical.not_not.1 c, g.symm⟩
theorem tpF_err {k w h : Int} {zs bs : List Int} {e : Int} (g : tpF k zs w h = (bs, e)) (hk : kOk k) (he : ¬ e = 0) : (¬ tR w h ∧ e = 3) ∨ (tR w h ∧ ¬ ckF zs w h = 0 ∧ e = ckF zs w h) := by
  unfold tpF at g
  split at g
  · rename_i a; injection g with _ g; exact .inl ⟨a, g.symm⟩
  rename_i a
  split at g
  · rename_i c; injection g with _ g; exact .inr ⟨Classical.not_not.1 a, c, g.symm⟩
  · injection g with _ g; omega
theorem tpF_ok {k w h : Int} {zs bs : List Int} {e : Int} (g : tpF k zs w h = (bs, e)) (hn : zs.length ≤ 1000000) : okB bs := by
  by_cases he : e = 0
  · obtain ⟨a, b, c, rfl⟩ := tpF_inv g he
    intro z hz
    rcases List.mem_cons.1 hz with rfl | hz
    · unfold kOk at b; omega
    · exact runsB_ok (rests_allI a.1 (ckF_ok c).2) (by rw [restsL_len]; omega) z hz
  · unfold tpF at g
    split at g
    · injection g with g _; subst g; exact fun z hz => by cases hz
    split at g
    · injection g with g _; subst g; exact fun z hz => by cases hz
    split at g
    · injection g with g _; subst g; exact fun z hz => by cases hz
    · injection g with _ g; omega
theorem tpF_len {k w h : Int} {zs bs : List Int} {e : Int} (g : tpF k zs w h = (bs, e)) : bs.length ≤ 1 + 11 * zs.length := by
  by_cases he : e = 0
  · obtain ⟨a, b, c, rfl⟩ := tpF_inv g he
    have h1 := runsB_len (rn (restsL k zs w zs.length) 0)
    have h2 := (rn_len (restsL k zs w zs.length) 0).2 rfl
    have h3 := restsL_len k zs w zs.length
    simp only [List.length_cons]; omega
  · unfold tpF at g
    split at g
    · injection g with g _; subst g; simp
    split at g
    · injection g with g _; subst g; simp
    split at g
    · injection g with g _; subst g; simp
    · injection g with _ g; omega
theorem tgF_len {w h : Int} {zs bs : List Int} {k e : Int} (hB : okB bs) (g : tgF bs w h = (zs, k, e)) : zs.length ≤ 1048576 := by
  unfold tgF at g
  split at g
  · injection g with g _; subst g; simp
  split at g
  · injection g with g _; subst g; simp
  split at g
  · injection g with g _; subst g; simp
  split at g
  · injection g with g _; subst g; simp
  split at g
  · injection g with g _; subst g; simp
  split at g
  · injection g with g _; subst g; simp
  injection g with g _
  subst g
  have hr : (rgF bs 1 (w * h)).1.length ≤ 1048576 := by
    unfold rgF
    split
    · simp
    · rename_i hb
      cases hg : rget bs (w * h).toNat ((w * h).toNat + 1) [] (1 : Int).toNat false with
      | error e => simp
      | ok r =>
        obtain ⟨rs, m⟩ := r
        simp only
        obtain ⟨t, e1, e2, e3, e4, e5, _, e7⟩ := rget_got bs _ hB (by omega) _ [] 1 false rs m (by omega) (Nat.zero_le _) hg
        omega
  unfold pcF
  split
  · simp
  · cases hc : cellsN (nth bs 0) w (rgF bs 1 (w * h)).1 (rgF bs 1 (w * h)).1.length with
    | none => simp
    | some cs => have := cellsN_len hc; simp only; omega
/-- how many bytes by a predictor -/
def LT (zs : List Int) (w : Int) (k : Nat) : Nat := (runsB (rn (restsL (k : Int) zs w zs.length) 0)).length
theorem LT_le {zs : List Int} {w : Int} {k : Nat} : LT zs w k ≤ 11 * zs.length := by
  unfold LT
  have h1 := runsB_len (rn (restsL k zs w zs.length) 0)
  have h2 := (rn_len (restsL k zs w zs.length) 0).2 rfl
  have h3 := restsL_len k zs w zs.length
  omega
def bInv (f : Nat → Nat) (i b : Nat) : Prop := ∀ j, j < i → f b ≤ f j ∧ (j < b → f b < f j)
theorem bInv_new {f : Nat → Nat} {i b : Nat} (h : bInv f i b) (hf : i = 0 ∨ f i < f b) : bInv f (i + 1) i := fun j hj => by
  rcases Nat.lt_succ_iff_lt_or_eq.1 hj with q | rfl
  · have := h j q; omega
  · omega
theorem bInv_old {f : Nat → Nat} {i b : Nat} (h : bInv f i b) (hb : b < i) (hf : f b ≤ f i) : bInv f (i + 1) b := fun j hj => by
  rcases Nat.lt_succ_iff_lt_or_eq.1 hj with q | rfl
  · exact h j q
  · omega
theorem bInv_fun {f : Nat → Nat} {b b' : Nat} (h : bInv f 3 b) (h' : bInv f 3 b') (hb : b < 3) (hb' : b' < 3) : b = b' := by
  have h1 := h b' hb'
  have h2 := h' b hb
  omega
def tbQ (zs : List Int) (w h k e : Int) : Prop := (¬ tR w h ∧ k = 0 ∧ e = 3) ∨ (tR w h ∧ ¬ ckF zs w h = 0 ∧ k = 0 ∧ e = ckF zs w h) ∨ (tR w h ∧ ckF zs w h = 0 ∧ e = 0 ∧ ∃ b : Nat, k = b ∧ b < 3 ∧ bInv (LT zs w) 3 b)
theorem tbQ_fun {zs : List Int} {w h k e k' e' : Int} (g : tbQ zs w h k e) (g' : tbQ zs w h k' e') : k = k' ∧ e = e' := by
  rcases g with ⟨a, rfl, rfl⟩ | ⟨a, b, rfl, rfl⟩ | ⟨a, b, rfl, x, rfl, hx, hi⟩ <;> rcases g' with ⟨a', rfl, rfl⟩ | ⟨a', b', rfl, rfl⟩ | ⟨a', b', rfl, x', rfl, hx', hi'⟩ <;> first | exact ⟨rfl, rfl⟩ | exact absurd a' a | exact absurd a a' | exact absurd b' b | exact absurd b b' | exact ⟨by rw [bInv_fun hi hi' hx hx'], rfl⟩

set_option maxRecDepth 100000 in
set_option maxHeartbeats 1000000 in
theorem tileBest (p q : Int) (zs : List Int) (A : Option Addr) (n c : Nat) (w : World) (hz : Rd w A (vi .i64 zs)) (hl : zs.length = n) (hcap : n ≤ c) (hn : n ≤ 1000000) :
    Ret Try.prog 17 [.slice A n c, .int .i64 p, .int .i64 q] w (fun v w' => ∃ k e, v = .tuple #[.int .i64 k, .int .i64 e] ∧ tbQ zs p q k e ∧ Below w.heap.size w w') := by
 refine ret_enter Try.func17 rfl rfl rfl ?_
 have H0 := HS.start w
 refine cw_seq ?_
 refine cw_reg ?_
 refine ry (y_asg rfl rfl) rfl rfl ?_
 refine ry (y_asg rfl rfl) rfl rfl ?_
 refine reg_nil ?_
 refine fn_next ?_
 refine cw_seq ?_
 refine cw_seq ?_
 refine cw_reg ?_
 refine ry (y_mov rfl rfl) rfl rfl ?_
 refine ry (y_mov rfl rfl) rfl rfl ?_
 refine reg_op (op_call (tileRight p q _) rfl kftile3_1 ⟨rfl, rfl, trivial⟩) rfl rfl ?_
 rintro _ w2 ⟨rfl, e1⟩
 have H3 := H0.ext e1
 refine ry (y_notd rfl rfl) rfl rfl ?_
 refine reg_nil ?_
 refine fn_next ?_
 refine cw_condd rfl (fun hR0 => ?_) (fun hR0 => ?_)
 ·skip
  refine cw_seq ?_
  refine cw_reg ?_
  refine ry (y_asg rfl rfl) rfl rfl ?_
  refine ry (y_asg rfl rfl) rfl rfl ?_
  refine reg_nil ?_
  refine fn_next ?_
  refine cw_ret ?_
  refine fn_then_ret ?_
  refine fn_retn (vs := [_, _]) rfl ⟨rfl, rfl, trivial⟩ rfl ?_
  exact ⟨_, _, rfl, .inl ⟨hR0, rfl, rfl⟩, H3.base⟩
 ·skip
  have hR := Classical.not_not.1 hR0
  refine cw_skip ?_
  refine fn_next ?_
  refine cw_seq ?_
  refine cw_seq ?_
  refine cw_reg ?_
  refine ry (y_mov rfl rfl) rfl rfl ?_
  refine ry (y_mov rfl rfl) rfl rfl ?_
  refine ry (y_mov rfl rfl) rfl rfl ?_
  refine reg_op (op_call (tileCheck p q zs A n c _ (hz.below H3.base) hl hcap hn hR) rfl kftile3_2 ⟨rfl, rfl, rfl, trivial⟩) rfl rfl ?_
  rintro _ w6 ⟨rfl, e5⟩
  have H7 := H3.ext e5
  refine ry (y_asg rfl rfl) rfl rfl ?_
  refine reg_nil ?_
  refine fn_next ?_
  refine cw_seq ?_
  refine cw_reg ?_
  refine ry (y_mov rfl rfl) rfl rfl ?_
  refine ry (y_neq rfl rfl rfl) rfl rfl ?_
  refine reg_nil ?_
  refine fn_next ?_
  refine cw_condd rfl (fun hc => ?_) (fun hc => ?_)
  ·skip
   refine cw_seq ?_
   refine cw_reg ?_
   refine ry (y_mov rfl rfl) rfl rfl ?_
   refine ry (y_asg rfl rfl) rfl rfl ?_
   refine ry (y_asg rfl rfl) rfl rfl ?_
   refine reg_nil ?_
   refine fn_next ?_
   refine cw_ret ?_
   refine fn_then_ret ?_
   refine fn_retn (vs := [_, _]) rfl ⟨rfl, rfl, trivial⟩ rfl ?_
   exact ⟨_, _, rfl, .inr (.inl ⟨hR, hc, rfl, rfl⟩), H7.base⟩
  ·skip
   have hc0 := Classical.not_not.1 hc
   obtain ⟨hlen, hm⟩ := ckF_ok hc0
   refine cw_skip ?_
   refine fn_next ?_
   refine cw_seq ?_
   refine cw_reg ?_
   refine ry (y_asg rfl rfl) rfl rfl ?_
   refine ry (y_asg rfl rfl) rfl rfl ?_
   refine reg_nil ?_
   refine fn_next ?_
   refine cw_seq ?_
   refine cw_seq ?_
   refine cw_reg ?_
   refine ry (y_mov rfl rfl) rfl rfl ?_
   refine reg_nil ?_
   refine fn_next ?_
   refine cw_block ?_
   refine cw_loopJ [9, 10, 11, 12, 13, 14, 26, 27, 28, 29, 30, 31, 32, 33, 34, 35, 36, 37, 38, 39, 40, 41, 42, 43, 44, 45, 46, 47] (fun M wl ml => ∃ (i b : Nat) (l : Int), M = [(26, .int .i64 (i : Int)), (9, .int .i64 (b : Int)), (10, .int .i64 l)] ∧ HS w wl [] ∧ (i ≤ 3) ∧ (bInv (LT zs p) i b) ∧ (i = 0 ∨ (b < i ∧ l = (LT zs p b : Int))) ∧ ml = 4 - i) ⟨0, 0, 0, rfl, H7, by omega, fun j hj => absurd hj (Nat.not_lt_zero _), .inl rfl, rfl⟩ ⟨rfl, rfl, rfl, trivial⟩ ?_
   rintro M w9 m11 ⟨i, b, l, rfl, H10, hi3, hI, hbl, rfl⟩
   refine cw_seq ?_
   refine cw_reg ?_
   refine ry (y_lss rfl rfl rfl) rfl rfl ?_
   refine reg_nil ?_
   refine fn_next ?_
   refine cw_seq ?_
   refine cw_condd rfl (fun h12 => ?_) (fun h12 => ?_)
   ·skip
    refine cw_skip ?_
    refine fn_next ?_
    refine cw_seq ?_
    refine cw_block ?_
    refine cw_seq ?_
    refine cw_reg ?_
    refine ry (y_mov rfl rfl) rfl rfl ?_
    refine ry (y_asg rfl rfl) rfl rfl ?_
    refine reg_nil ?_
    refine fn_next ?_
    refine cw_seq ?_
    refine cw_reg ?_
    refine ry (y_mov rfl rfl) rfl rfl ?_
    refine ry (y_mov rfl rfl) rfl rfl ?_
    refine ry (y_mov rfl rfl) rfl rfl ?_
    refine reg_op (op_call (predRests (i : Int) p zs A n c _ (hz.below H10.base) hl hcap (by omega)) rfl kftile3_3 ⟨rfl, rfl, rfl, trivial⟩) rfl rfl ?_
    rintro _ w14 ⟨A16, c17, rs, e, rfl, hQ, k13⟩
    have H15 := H10.call k13
    obtain rfl : rs = restsL (i : Int) zs p zs.length := by rcases hQ with ⟨h, _⟩ | ⟨_, h, _⟩ | ⟨_, _, h, _⟩; exact absurd (right4_w hR ⟨by omega, by omega⟩ hlen) h; exact absurd hm h; exact h
    refine ry (y_mov rfl rfl) rfl rfl ?_
    refine ry (y_ext rfl rfl rfl) rfl rfl ?_
    refine ry (y_ext rfl rfl rfl) rfl rfl ?_
    refine ry (y_asg rfl rfl) rfl rfl ?_
    refine ry (y_asg rfl rfl) rfl rfl ?_
    refine reg_nil ?_
    refine fn_next ?_
    refine cw_seq ?_
    refine cw_reg ?_
    refine ry (y_mov rfl rfl) rfl rfl ?_
    refine reg_op (op_call (runsLen _ _ _ (restsL (i : Int) zs p zs.length) _ (H15.rd (i := 0) rfl) rfl (by rw [restsL_len]; omega) (rests_allI hR.1 hm)) rfl kftile3_4 ⟨rfl, trivial⟩) rfl rfl ?_
    rintro _ w19 ⟨rfl, e18⟩
    have H20 := H15.ext e18
    refine ry (y_asg rfl rfl) rfl rfl ?_
    refine reg_nil ?_
    refine fn_next ?_
    refine cw_seq ?_
    refine cw_reg ?_
    refine ry (y_mov rfl rfl) rfl rfl ?_
    have hLT : ((runsB (rn (restsL (i : Int) zs p zs.length) 0)).length : Int) = (LT zs p i : Int) := rfl
    refine ry (y_eql rfl rfl rfl) rfl rfl ?_
    refine ry (y_mov rfl rfl) rfl rfl ?_
    refine rg_splitd (d := 40) rfl (fun h21 => ?_) (fun h21 => ?_)
    ·skip
     refine rg_off rfl rfl rfl rfl rfl ?_
     refine rg_off rfl rfl rfl rfl rfl ?_
     refine rg_off rfl rfl rfl rfl rfl ?_
     refine ry (y_pick rfl rfl rfl) rfl rfl ?_
     refine reg_nil ?_
     refine fn_next ?_
     refine cw_condt rfl ?_
     refine cw_reg ?_
     refine ry (y_mov rfl rfl) rfl rfl ?_
     refine ry (y_mov rfl rfl) rfl rfl ?_
     refine ry (y_asg rfl rfl) rfl rfl ?_
     refine ry (y_asg rfl rfl) rfl rfl ?_
     refine reg_nil ?_
     refine fn_block ?_
     refine fn_next ?_
     refine cw_reg ?_
     refine ry (y_add rfl rfl rfl (wi (by omega))) rfl rfl ?_
     refine ry (y_mov rfl rfl) rfl rfl ?_
     refine reg_nil ?_
     refine fn_roundJ ⟨i + 1, i, _, rfl, (H20.pick (m := []) [] rfl (by decide)), by omega, bInv_new hI (by omega), .inr ⟨by omega, rfl⟩, rfl⟩ ⟨rfl, rfl, rfl, trivial⟩ (by omega) (by repeat (first | exact kp_refl | refine kp_app rfl rfl ?_ | refine kp_cons rfl ?_)) rfl
    ·skip
     refine rgy (y_mov rfl rfl) rfl rfl rfl rfl ?_
     refine rgy (y_mov rfl rfl) rfl rfl rfl rfl ?_
     refine rgy (y_lss rfl rfl rfl) rfl rfl rfl rfl ?_
     refine ry (y_pick rfl rfl rfl) rfl rfl ?_
     refine reg_nil ?_
     refine fn_next ?_
     refine cw_condd rfl (fun h22 => ?_) (fun h22 => ?_)
     ·skip
      refine cw_reg ?_
      refine ry (y_mov rfl rfl) rfl rfl ?_
      refine ry (y_mov rfl rfl) rfl rfl ?_
      refine ry (y_asg rfl rfl) rfl rfl ?_
      refine ry (y_asg rfl rfl) rfl rfl ?_
      refine reg_nil ?_
      refine fn_block ?_
      refine fn_next ?_
      refine cw_reg ?_
      refine ry (y_add rfl rfl rfl (wi (by omega))) rfl rfl ?_
      refine ry (y_mov rfl rfl) rfl rfl ?_
      refine reg_nil ?_
      refine fn_roundJ ⟨i + 1, i, _, rfl, (H20.pick (m := []) [] rfl (by decide)), by omega, bInv_new hI (by omega), .inr ⟨by omega, rfl⟩, rfl⟩ ⟨rfl, rfl, rfl, trivial⟩ (by omega) (by repeat (first | exact kp_refl | refine kp_app rfl rfl ?_ | refine kp_cons rfl ?_)) rfl
     ·skip
      refine cw_skip ?_
      refine fn_block ?_
      refine fn_next ?_
      refine cw_reg ?_
      refine ry (y_add rfl rfl rfl (wi (by omega))) rfl rfl ?_
      refine ry (y_mov rfl rfl) rfl rfl ?_
      refine reg_nil ?_
      refine fn_roundJ ⟨i + 1, b, l, rfl, (H20.pick (m := []) [] rfl (by decide)), by omega, bInv_old hI (by omega) (by omega), .inr ⟨by omega, by omega⟩, rfl⟩ ⟨rfl, rfl, rfl, trivial⟩ (by omega) (by repeat (first | exact kp_refl | refine kp_app rfl rfl ?_ | refine kp_cons rfl ?_)) rfl
   ·skip
    refine cw_exit ?_
    refine fn_then_exit (fn_then_exit (fn_block_exit ?_))
    refine fn_next ?_
    refine cw_seq ?_
    refine cw_reg ?_
    refine ry (y_mov rfl rfl) rfl rfl ?_
    refine ry (y_asg rfl rfl) rfl rfl ?_
    refine ry (y_asg rfl rfl) rfl rfl ?_
    refine reg_nil ?_
    refine fn_next ?_
    refine cw_ret ?_
    refine fn_retn (vs := [_, _]) rfl ⟨rfl, rfl, trivial⟩ rfl ?_
    obtain rfl : i = 3 := by omega
    exact ⟨_, _, rfl, .inr (.inr ⟨hR, hc0, rfl, b, rfl, by omega, hI⟩), H10.base⟩

set_option maxRecDepth 100000 in
set_option maxHeartbeats 1000000 in
theorem refTBest (p q : Int) (zs : List Int) (A : Option Addr) (n c : Nat) (w : World) (hz : Rd w A (vi .i64 zs)) (hl : zs.length = n) (hn : n ≤ 1000000) :
    Ret Try.prog 18 [.slice A n c, .int .i64 p, .int .i64 q] w (fun v w' => ∃ k e, v = .tuple #[.int .i64 k, .int .i64 e] ∧ tbQ zs p q k e ∧ Below w.heap.size w w') := by
 refine ret_enter Try.func18 rfl rfl rfl ?_
 have H0 := HS.start w
 refine cw_seq ?_
 refine cw_reg ?_
 refine ry (y_asg rfl rfl) rfl rfl ?_
 refine ry (y_asg rfl rfl) rfl rfl ?_
 refine reg_nil ?_
 refine fn_next ?_
 refine cw_seq ?_
 refine cw_reg ?_
 refine ry (y_asg rfl rfl) rfl rfl ?_
 refine ry (y_asg rfl rfl) rfl rfl ?_
 refine reg_nil ?_
 refine fn_next ?_
 refine cw_seq ?_
 refine cw_seq ?_
 refine cw_reg ?_
 refine ry (y_asg rfl rfl) rfl rfl ?_
 refine reg_nil ?_
 refine fn_next ?_
 refine cw_block ?_
 refine cw_loopJ [6, 7, 8, 9, 10, 11, 12, 13, 14, 15, 16, 17, 18, 19, 20, 21, 22, 23, 24, 25, 26, 27, 28, 29, 30, 31, 32, 33, 34] (fun M wl ml => ∃ (i b : Nat) (l : Int), M = [(10, .int .i64 (i : Int)), (8, .int .i64 (b : Int)), (9, .int .i64 l)] ∧ HS w wl [] ∧ (i ≤ 3) ∧ (bInv (LT zs p) i b) ∧ ((i = 0 ∧ l = 1000000 ∧ b = 0) ∨ (b < i ∧ l = (LT zs p b : Int) + 1 ∧ tR p q ∧ ckF zs p q = 0)) ∧ ml = 4 - i) ⟨0, 0, 1000000, rfl, H0, by omega, fun j hj => absurd hj (Nat.not_lt_zero _), .inl ⟨rfl, rfl, rfl⟩, rfl⟩ ⟨rfl, rfl, rfl, trivial⟩ ?_
 rintro M w1 m3 ⟨i, b, l, rfl, H2, hi3, hI, hbl, rfl⟩
 refine cw_seq ?_
 refine cw_seq ?_
 refine cw_reg ?_
 refine ry (y_mov rfl rfl) rfl rfl ?_
 refine ry (y_lss rfl rfl rfl) rfl rfl ?_
 refine reg_nil ?_
 refine fn_next ?_
 refine cw_condd rfl (fun h4 => ?_) (fun h4 => ?_)
 ·skip
  refine cw_skip ?_
  refine fn_next ?_
  refine cw_seq ?_
  refine cw_block ?_
  refine cw_seq ?_
  refine cw_reg ?_
  refine ry (y_mov rfl rfl) rfl rfl ?_
  refine ry (y_mov rfl rfl) rfl rfl ?_
  refine ry (y_mov rfl rfl) rfl rfl ?_
  refine ry (y_mov rfl rfl) rfl rfl ?_
  refine reg_op (op_call (refTPut (i : Int) p q zs A n c _ (hz.below H2.base) hl hn) rfl kftile3_5 ⟨rfl, rfl, rfl, rfl, trivial⟩) rfl rfl ?_
  rintro _ w6 ⟨A8, c9, bs, e, rfl, hT, k5⟩
  have H7 := H2.call k5
  refine ry (y_mov rfl rfl) rfl rfl ?_
  refine ry (y_ext rfl rfl rfl) rfl rfl ?_
  refine ry (y_ext rfl rfl rfl) rfl rfl ?_
  refine ry (y_asg rfl rfl) rfl rfl ?_
  refine ry (y_asg rfl rfl) rfl rfl ?_
  refine reg_nil ?_
  refine fn_next ?_
  refine cw_seq ?_
  refine cw_seq ?_
  refine cw_reg ?_
  refine ry (y_mov rfl rfl) rfl rfl ?_
  refine ry (y_neq rfl rfl rfl) rfl rfl ?_
  refine reg_nil ?_
  refine fn_next ?_
  refine cw_condd rfl (fun he => ?_) (fun he => ?_)
  ·skip
   have hE := tpF_err hT ⟨by omega, by omega⟩ he
   refine cw_seq ?_
   refine cw_reg ?_
   refine ry (y_mov rfl rfl) rfl rfl ?_
   refine ry (y_asg rfl rfl) rfl rfl ?_
   refine ry (y_asg rfl rfl) rfl rfl ?_
   refine reg_nil ?_
   refine fn_next ?_
   refine cw_ret ?_
   refine fn_then_ret (fn_block_ret (fn_then_ret (fn_then_ret (fn_block_ret (fn_then_ret ?_)))))
   refine fn_retn (vs := [_, _]) rfl ⟨rfl, rfl, trivial⟩ rfl ?_
   rcases hE with ⟨h1, rfl⟩ | ⟨h1, h2, rfl⟩
   · exact ⟨_, _, rfl, .inl ⟨h1, rfl, rfl⟩, H7.base⟩
   · exact ⟨_, _, rfl, .inr (.inl ⟨h1, h2, rfl, rfl⟩), H7.base⟩
  ·skip
   obtain ⟨hR, _, hc0, hbs⟩ := tpF_inv hT (by omega)
   have hbs2 : bs.length = LT zs p i + 1 := by rw [hbs]; rfl
   have hL0 := LT_le (zs := zs) (w := p) (k := i)
   have hmul := tR_mul hR
   have hlen := (ckF_ok hc0).1
   refine cw_skip ?_
   refine fn_next ?_
   refine cw_seq ?_
   refine cw_reg ?_
   refine ry (y_mov rfl rfl) rfl rfl ?_
   refine ry (y_len rfl Try.underlying27 rfl) rfl rfl ?_
   refine ry (y_mov rfl rfl) rfl rfl ?_
   refine ry (y_lss rfl rfl rfl) rfl rfl ?_
   refine reg_nil ?_
   refine fn_next ?_
   refine cw_condd rfl (fun h11 => ?_) (fun h11 => ?_)
   ·skip
    refine cw_seq ?_
    refine cw_reg ?_
    refine ry (y_mov rfl rfl) rfl rfl ?_
    refine ry (y_asg rfl rfl) rfl rfl ?_
    refine reg_nil ?_
    refine fn_next ?_
    refine cw_reg ?_
    refine ry (y_mov rfl rfl) rfl rfl ?_
    refine ry (y_len rfl Try.underlying27 rfl) rfl rfl ?_
    refine ry (y_asg rfl rfl) rfl rfl ?_
    refine reg_nil ?_
    refine fn_block ?_
    refine fn_next ?_
    refine cw_reg ?_
    refine ry (y_mov rfl rfl) rfl rfl ?_
    refine ry (y_add rfl rfl rfl (wi (by omega))) rfl rfl ?_
    refine ry (y_asg rfl rfl) rfl rfl ?_
    refine reg_nil ?_
    refine fn_roundJ ⟨i + 1, i, _, rfl, (H7.pick (m := []) [] rfl (by decide)), by omega, bInv_new hI (by omega), .inr ⟨by omega, by omega, hR, hc0⟩, rfl⟩ ⟨rfl, rfl, rfl, trivial⟩ (by omega) (by repeat (first | exact kp_refl | refine kp_app rfl rfl ?_ | refine kp_cons rfl ?_)) rfl
   ·skip
    refine cw_skip ?_
    refine fn_block ?_
    refine fn_next ?_
    refine cw_reg ?_
    refine ry (y_mov rfl rfl) rfl rfl ?_
    refine ry (y_add rfl rfl rfl (wi (by omega))) rfl rfl ?_
    refine ry (y_asg rfl rfl) rfl rfl ?_
    refine reg_nil ?_
    refine fn_roundJ ⟨i + 1, b, l, rfl, (H7.pick (m := []) [] rfl (by decide)), by omega, bInv_old hI (by omega) (by omega), .inr ⟨by omega, by omega, hR, hc0⟩, rfl⟩ ⟨rfl, rfl, rfl, trivial⟩ (by omega) (by repeat (first | exact kp_refl | refine kp_app rfl rfl ?_ | refine kp_cons rfl ?_)) rfl
 ·skip
  obtain rfl : i = 3 := by omega
  obtain ⟨hb3, _, hR, hc0⟩ : b < 3 ∧ l = (LT zs p b : Int) + 1 ∧ tR p q ∧ ckF zs p q = 0 := by rcases hbl with h | h; omega; exact h
  refine cw_exit ?_
  refine fn_then_exit (fn_then_exit (fn_block_exit ?_))
  refine fn_next ?_
  refine cw_seq ?_
  refine cw_reg ?_
  refine ry (y_mov rfl rfl) rfl rfl ?_
  refine ry (y_asg rfl rfl) rfl rfl ?_
  refine ry (y_asg rfl rfl) rfl rfl ?_
  refine reg_nil ?_
  refine fn_next ?_
  refine cw_ret ?_
  refine fn_retn (vs := [_, _]) rfl ⟨rfl, rfl, trivial⟩ rfl ?_
  exact ⟨_, _, rfl, .inr (.inr ⟨hR, hc0, rfl, b, rfl, hb3, hI⟩), H2.base⟩

end Go.Proofs.Ytbnjbgcadkdljaa
