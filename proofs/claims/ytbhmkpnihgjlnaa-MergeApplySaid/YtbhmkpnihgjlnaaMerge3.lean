/- Layer 47: patch by patch. -/
import Derived.Test.YtbhmkpnihgjlnaaLaw47
import Derived.Test.YtbhmkpnihgjlnaaPat2
set_option linter.unusedVariables false
set_option linter.unusedSimpArgs false
namespace Go.Proofs.Ytbhmkpnihgjlnaa
open Go Go.RowKit
theorem kfmerge3_1 : callB Try.prog 79 = true := by kernel_rfl
theorem kfmerge3_2 : elB Try.prog 78 6 = true := by kernel_rfl
theorem kfmerge3_3 : aggB Try.prog 80 6 = true := by kernel_rfl
theorem kfmerge3_4 : (Try.prog.info? 80).bind (fun i => i.zero.map Value.cells) = some (List.toArray [(.int .i64 0), (.int .i64 0), (.int .i64 0), (.int .i64 0), (.slice none 0 0), (.slice none 0 0)]) := by kernel_rfl
theorem kfmerge3_5 : szB Try.prog 80 6 = true := by kernel_rfl
theorem kfmerge3_6 : callB Try.prog 86 = true := by kernel_rfl
theorem kfmerge3_7 : (Try.prog.info? 25).bind (fun i => i.zero.map Value.cells) = some (List.toArray [(.int .i64 0), (.int .i64 0), (.slice none 0 0)]) := by kernel_rfl
theorem kfmerge3_8 : aggB Try.prog 25 3 = true := by kernel_rfl
theorem kfmerge3_9 : callB Try.prog 87 = true := by kernel_rfl
theorem kfmerge3_10 : szB Try.prog 25 3 = true := by kernel_rfl
def pI (l : List Pt) (i : Nat) : Pt := l.getD i ⟨0, 0, 0, 0, ⟨none, 0, 0, []⟩, ⟨none, 0, 0, []⟩⟩
theorem pI_get {l : List Pt} {i : Nat} (h : i < l.length) : l[i]? = some (pI l i) := by unfold pI; rw [List.getD_eq_getElem?_getD, List.getElem?_eq_getElem h]; rfl
theorem pI_mem {l : List Pt} {i : Nat} (h : i < l.length) : pI l i ∈ l := List.mem_of_getElem? (pI_get h)
/-- the land behind so many patches -/
def apW (a h : Nat) (V : List Int) (ps : List Pt) : Nat → List Int
  | 0 => V
  | k + 1 => apV a h (apW a h V ps k) (pI ps k)
theorem apW_len {a h : Nat} {V : List Int} {ps : List Pt} : ∀ k, (apW a h V ps k).length = V.length
  | 0 => rfl
  | k + 1 => apV_len.trans (apW_len k)
theorem apW_bd {a h : Nat} {V : List Int} {ps : List Pt} (hV : AllB V) : ∀ k, AllB (apW a h V ps k)
  | 0 => hV
  | k + 1 => apV_bd (apW_bd hV k)
def apE (a h : Nat) (V : List Int) (ps : List Pt) (k : Nat) : Int := apC a h (apW a h V ps k) (pI ps k)
theorem first_bad (f : Nat → Int) : ∀ n : Nat, ∃ k, k ≤ n ∧ (∀ j, j < k → f j = 0) ∧ (k = n ∨ (k < n ∧ ¬ f k = 0))
  | 0 => ⟨0, Nat.le_refl _, (fun j hj => absurd hj (Nat.not_lt_zero _)), .inl rfl⟩
  | n + 1 => by
    obtain ⟨k, h1, h2, h3⟩ := first_bad f n
    rcases h3 with rfl | ⟨h4, h5⟩
    · by_cases h : f k = 0
      · exact ⟨k + 1, Nat.le_refl _, fun j hj => (Nat.lt_or_eq_of_le (Nat.le_of_lt_succ hj)).elim (h2 j) (fun e => e ▸ h), .inl rfl⟩
      · exact ⟨k, Nat.le_succ _, h2, .inr ⟨Nat.lt_succ_self _, h⟩⟩
    · exact ⟨k, by omega, h2, .inr ⟨by omega, h5⟩⟩

set_option maxRecDepth 100000 in
theorem mgApply_ok (g : Nat) (a h : Nat) (V : List Int) (ps : List Pt) (B : Option Addr) (n c : Nat) (w : World) (R : GRd w g a h V) (hall : ∀ x ∈ ps, x.ok w) (hsz : ∀ x ∈ ps, x.o.n ≤ 1500 ∧ x.q.n ≤ 1500) (hps : Rd w B (ptCells ps)) (hln : ps.length = n) (hn : n ≤ 20) (hz : ∀ j, j < n → apE a h V ps j = 0) :
    Ret Try.prog 48 [.pointer (some ⟨g, 0, none⟩), .slice B n c] w (fun z w' => ∃ g' bl, z = .tuple #[.pointer (some ⟨g', 0, none⟩), .int .i64 (n : Int), .int .i64 0] ∧ HS w w' [gOb g' a h (apW a h V ps n) bl]) := by
 refine ret_enter Try.func48 rfl rfl rfl ?_
 have H0 := HS.start w
 refine cw_seq ?_
 refine cw_reg ?_
 refine ry (y_asg rfl rfl) rfl rfl ?_
 refine ry (y_asg rfl rfl) rfl rfl ?_
 refine ry (y_asg rfl rfl) rfl rfl ?_
 refine reg_nil ?_
 refine fn_next ?_
 refine cw_seq ?_
 refine cw_seq ?_
 refine cw_reg ?_
 refine ry (y_mov rfl rfl) rfl rfl ?_
 refine ry (y_peqlnil rfl Try.underlying28 rfl rfl) rfl rfl ?_
 refine reg_nil ?_
 refine fn_next ?_
 refine cw_condf rfl ?_
 refine cw_skip ?_
 refine fn_next ?_
 refine cw_seq ?_
 refine cw_reg ?_
 refine ry (y_mov rfl rfl) rfl rfl ?_
 refine reg_op (op_call (gCopy g a h (V) _ (R.below H0.base)) rfl kfmerge3_1 ⟨rfl, trivial⟩) rfl rfl ?_
 rintro _ w2 ⟨g4, bl5, rfl, k1⟩
 have H3 := H0.call k1
 refine ry (y_asg rfl rfl) rfl rfl ?_
 refine reg_nil ?_
 refine fn_next ?_
 refine cw_seq ?_
 refine cw_seq ?_
 refine cw_reg ?_
 refine ry (y_mov rfl rfl) rfl rfl ?_
 refine ry (y_len rfl Try.underlying78 rfl) rfl rfl ?_
 refine ry (y_mov rfl rfl) rfl rfl ?_
 refine reg_nil ?_
 refine fn_next ?_
 refine cw_block ?_
 refine cw_loopJ [4, 5, 6, 8, 9, 10, 17, 18, 19, 20, 21, 22, 23, 24, 25, 26, 27, 28, 29] (fun M wl ml => ∃ (i : Nat) (bl' : Nat → Prop), M = [(17, .int .i64 (i : Int))] ∧ HS w wl [gOb g4 a h (apW a h V ps i) bl'] ∧ (i ≤ n) ∧ ml = n - i) ⟨0, _, rfl, H3, Nat.zero_le _, rfl⟩ ⟨rfl, trivial⟩ ?_
 rintro M w6 m8 ⟨i, bl', rfl, H7, hp0, rfl⟩
 refine cw_seq ?_
 refine cw_reg ?_
 refine ry (y_lss rfl rfl rfl) rfl rfl ?_
 refine reg_nil ?_
 refine fn_next ?_
 refine cw_seq ?_
 refine cw_condd rfl (fun h9 => ?_) (fun h9 => ?_)
 ·skip
  have pq : ∀ (j : Nat) (v : Value), ([.int .i64 (pI ps i).x0, .int .i64 (pI ps i).y0, .int .i64 (pI ps i).x1, .int .i64 (pI ps i).y1, .slice (pI ps i).o.A (pI ps i).o.n (pI ps i).o.c, .slice (pI ps i).q.A (pI ps i).q.n (pI ps i).q.c] : List Value)[j]? = some v → (ptCells ps)[i * 6 + j]? = some v := pt_get (pI_get (by omega))
  refine cw_skip ?_
  refine fn_next ?_
  refine cw_seq ?_
  refine cw_block ?_
  refine cw_seq ?_
  refine cw_reg ?_
  refine ry (y_mov rfl rfl) rfl rfl ?_
  refine ry (y_iar (i := i) ((hps.below H7.base)) rfl rfl rfl kfmerge3_2 (rfl) (by omega) (rfl) (pq 0 _ rfl)) rfl rfl ?_
  refine ry (y_ldra (cs := [_, _, _, _, _, _]) ((hps.below H7.base)) rfl rfl kfmerge3_3 rfl (by decide) (fun j v hv => pq j v hv)) rfl rfl ?_
  refine reg_op (op_alloc H7 rfl kfmerge3_4) rfl rfl ?_
  rintro _ w11 ⟨b10, rfl, H12⟩
  refine ry (y_asg rfl rfl) rfl rfl ?_
  refine reg_op (op_st (i := 0) (vs := [.int _ _, .int _ _, .int _ _, .int _ _, .slice _ _ _, .slice _ _ _]) H12 rfl rfl rfl rfl rfl kfmerge3_5 rfl rfl rfl) rfl rfl ?_
  rintro _ w13 H14
  refine reg_nil ?_
  refine fn_next ?_
  refine cw_seq ?_
  refine cw_reg ?_
  refine ry (y_mov rfl rfl) rfl rfl ?_
  refine ry (y_ldb (i := 0) (cs := [_, _, _, _, _, _]) H14 rfl rfl kfmerge3_3 rfl rfl) rfl rfl ?_
  refine reg_op (op_call (patApply w _ g4 a h (apW a h V ps i) bl' (pI ps i) _ (fun X HX => (hall _ (pI_mem (by omega))).below HX.base) (by have := (hsz _ (pI_mem (show i < ps.length by omega))).1; omega) (by have := (hsz _ (pI_mem (show i < ps.length by omega))).2; omega) (H14.pick (m := [_, _]) [1, 0] rfl (by decide))) rfl kfmerge3_6 ⟨rfl, rfl, trivial⟩) rfl rfl ?_
  rintro _ w16 ⟨bl17, rfl, H15⟩
  refine ry (y_asg rfl rfl) rfl rfl ?_
  refine reg_nil ?_
  refine fn_next ?_
  refine cw_seq ?_
  refine cw_reg ?_
  refine ry (y_mov rfl rfl) rfl rfl ?_
  refine ry (y_neq rfl rfl rfl) rfl rfl ?_
  refine reg_nil ?_
  refine fn_next ?_
  refine cw_condd rfl (fun h18 => ?_) (fun h18 => ?_)
  · exact absurd (hz i (by omega)) h18
  ·skip
   refine cw_skip ?_
   refine fn_block ?_
   refine fn_next ?_
   refine cw_reg ?_
   refine ry (y_add rfl rfl rfl (wi (by omega))) rfl rfl ?_
   refine ry (y_mov rfl rfl) rfl rfl ?_
   refine reg_nil ?_
   refine fn_roundJ ⟨i + 1, _, rfl, (H15.pick (m := [_]) [0] rfl (by decide)), by omega, rfl⟩ ⟨rfl, trivial⟩ (by omega) (by repeat (first | exact kp_refl | refine kp_app rfl rfl ?_ | refine kp_cons rfl ?_)) rfl
 ·skip
  obtain rfl : i = n := by omega
  refine cw_exit ?_
  refine fn_then_exit (fn_then_exit (fn_block_exit ?_))
  refine fn_next ?_
  refine cw_seq ?_
  refine cw_reg ?_
  refine ry (y_mov rfl rfl) rfl rfl ?_
  refine ry (y_mov rfl rfl) rfl rfl ?_
  refine ry (y_len rfl Try.underlying78 rfl) rfl rfl ?_
  refine ry (y_asg rfl rfl) rfl rfl ?_
  refine ry (y_asg rfl rfl) rfl rfl ?_
  refine ry (y_asg rfl rfl) rfl rfl ?_
  refine reg_nil ?_
  refine fn_next ?_
  refine cw_ret ?_
  refine fn_retn (vs := [_, _, _]) rfl ⟨rfl, rfl, rfl, trivial⟩ rfl ?_
  exact ⟨_, _, rfl, (H7.pick (m := [_]) [0] rfl (by decide))⟩

set_option maxRecDepth 100000 in
theorem mgApply_bad (g : Nat) (a h : Nat) (V : List Int) (ps : List Pt) (B : Option Addr) (n c : Nat) (k : Nat) (w : World) (R : GRd w g a h V) (hall : ∀ x ∈ ps, x.ok w) (hsz : ∀ x ∈ ps, x.o.n ≤ 1500 ∧ x.q.n ≤ 1500) (hps : Rd w B (ptCells ps)) (hln : ps.length = n) (hn : n ≤ 20) (hk : k < n) (hz : ∀ j, j < k → apE a h V ps j = 0) (hbad : ¬ apE a h V ps k = 0) :
    Ret Try.prog 48 [.pointer (some ⟨g, 0, none⟩), .slice B n c] w (fun z w' => z = .tuple #[.pointer none, .int .i64 (k : Int), .int .i64 (apE a h V ps k)] ∧ Below w.heap.size w w') := by
 refine ret_enter Try.func48 rfl rfl rfl ?_
 have H0 := HS.start w
 refine cw_seq ?_
 refine cw_reg ?_
 refine ry (y_asg rfl rfl) rfl rfl ?_
 refine ry (y_asg rfl rfl) rfl rfl ?_
 refine ry (y_asg rfl rfl) rfl rfl ?_
 refine reg_nil ?_
 refine fn_next ?_
 refine cw_seq ?_
 refine cw_seq ?_
 refine cw_reg ?_
 refine ry (y_mov rfl rfl) rfl rfl ?_
 refine ry (y_peqlnil rfl Try.underlying28 rfl rfl) rfl rfl ?_
 refine reg_nil ?_
 refine fn_next ?_
 refine cw_condf rfl ?_
 refine cw_skip ?_
 refine fn_next ?_
 refine cw_seq ?_
 refine cw_reg ?_
 refine ry (y_mov rfl rfl) rfl rfl ?_
 refine reg_op (op_call (gCopy g a h (V) _ (R.below H0.base)) rfl kfmerge3_1 ⟨rfl, trivial⟩) rfl rfl ?_
 rintro _ w2 ⟨g4, bl5, rfl, k1⟩
 have H3 := H0.call k1
 refine ry (y_asg rfl rfl) rfl rfl ?_
 refine reg_nil ?_
 refine fn_next ?_
 refine cw_seq ?_
 refine cw_seq ?_
 refine cw_reg ?_
 refine ry (y_mov rfl rfl) rfl rfl ?_
 refine ry (y_len rfl Try.underlying78 rfl) rfl rfl ?_
 refine ry (y_mov rfl rfl) rfl rfl ?_
 refine reg_nil ?_
 refine fn_next ?_
 refine cw_block ?_
 refine cw_loopJ [4, 5, 6, 8, 9, 10, 17, 18, 19, 20, 21, 22, 23, 24, 25, 26, 27, 28, 29] (fun M wl ml => ∃ (i : Nat) (bl' : Nat → Prop), M = [(17, .int .i64 (i : Int))] ∧ HS w wl [gOb g4 a h (apW a h V ps i) bl'] ∧ (i ≤ k) ∧ ml = n - i) ⟨0, _, rfl, H3, Nat.zero_le _, rfl⟩ ⟨rfl, trivial⟩ ?_
 rintro M w6 m8 ⟨i, bl', rfl, H7, hp0, rfl⟩
 refine cw_seq ?_
 refine cw_reg ?_
 refine ry (y_lss rfl rfl rfl) rfl rfl ?_
 refine reg_nil ?_
 refine fn_next ?_
 refine cw_seq ?_
 refine cw_condd rfl (fun h9 => ?_) (fun h9 => ?_)
 ·skip
  have pq : ∀ (j : Nat) (v : Value), ([.int .i64 (pI ps i).x0, .int .i64 (pI ps i).y0, .int .i64 (pI ps i).x1, .int .i64 (pI ps i).y1, .slice (pI ps i).o.A (pI ps i).o.n (pI ps i).o.c, .slice (pI ps i).q.A (pI ps i).q.n (pI ps i).q.c] : List Value)[j]? = some v → (ptCells ps)[i * 6 + j]? = some v := pt_get (pI_get (by omega))
  refine cw_skip ?_
  refine fn_next ?_
  refine cw_seq ?_
  refine cw_block ?_
  refine cw_seq ?_
  refine cw_reg ?_
  refine ry (y_mov rfl rfl) rfl rfl ?_
  refine ry (y_iar (i := i) ((hps.below H7.base)) rfl rfl rfl kfmerge3_2 (rfl) (by omega) (rfl) (pq 0 _ rfl)) rfl rfl ?_
  refine ry (y_ldra (cs := [_, _, _, _, _, _]) ((hps.below H7.base)) rfl rfl kfmerge3_3 rfl (by decide) (fun j v hv => pq j v hv)) rfl rfl ?_
  refine reg_op (op_alloc H7 rfl kfmerge3_4) rfl rfl ?_
  rintro _ w11 ⟨b10, rfl, H12⟩
  refine ry (y_asg rfl rfl) rfl rfl ?_
  refine reg_op (op_st (i := 0) (vs := [.int _ _, .int _ _, .int _ _, .int _ _, .slice _ _ _, .slice _ _ _]) H12 rfl rfl rfl rfl rfl kfmerge3_5 rfl rfl rfl) rfl rfl ?_
  rintro _ w13 H14
  refine reg_nil ?_
  refine fn_next ?_
  refine cw_seq ?_
  refine cw_reg ?_
  refine ry (y_mov rfl rfl) rfl rfl ?_
  refine ry (y_ldb (i := 0) (cs := [_, _, _, _, _, _]) H14 rfl rfl kfmerge3_3 rfl rfl) rfl rfl ?_
  refine reg_op (op_call (patApply w _ g4 a h (apW a h V ps i) bl' (pI ps i) _ (fun X HX => (hall _ (pI_mem (by omega))).below HX.base) (by have := (hsz _ (pI_mem (show i < ps.length by omega))).1; omega) (by have := (hsz _ (pI_mem (show i < ps.length by omega))).2; omega) (H14.pick (m := [_, _]) [1, 0] rfl (by decide))) rfl kfmerge3_6 ⟨rfl, rfl, trivial⟩) rfl rfl ?_
  rintro _ w16 ⟨bl17, rfl, H15⟩
  refine ry (y_asg rfl rfl) rfl rfl ?_
  refine reg_nil ?_
  refine fn_next ?_
  refine cw_seq ?_
  refine cw_reg ?_
  refine ry (y_mov rfl rfl) rfl rfl ?_
  refine ry (y_neq rfl rfl rfl) rfl rfl ?_
  refine reg_nil ?_
  refine fn_next ?_
  refine cw_condd rfl (fun h18 => ?_) (fun h18 => ?_)
  ·skip
   have hik : i = k := by
     rcases Nat.lt_or_eq_of_le hp0 with q | q
     · exact absurd (hz i q) h18
     · exact q
   subst hik
   refine cw_seq ?_
   refine cw_reg ?_
   refine ry (y_mov rfl rfl) rfl rfl ?_
   refine ry (y_mov rfl rfl) rfl rfl ?_
   refine ry (y_asg rfl rfl) rfl rfl ?_
   refine ry (y_asg rfl rfl) rfl rfl ?_
   refine ry (y_asg rfl rfl) rfl rfl ?_
   refine reg_nil ?_
   refine fn_next ?_
   refine cw_ret ?_
   refine fn_block_ret (fn_then_ret (fn_then_ret (fn_block_ret (fn_then_ret ?_))))
   refine fn_retn (vs := [_, _, _]) rfl ⟨rfl, rfl, rfl, trivial⟩ rfl ?_
   exact ⟨rfl, H15.base⟩
  ·skip
   have hik : i ≠ k := fun e => by subst e; exact h18 hbad
   refine cw_skip ?_
   refine fn_block ?_
   refine fn_next ?_
   refine cw_reg ?_
   refine ry (y_add rfl rfl rfl (wi (by omega))) rfl rfl ?_
   refine ry (y_mov rfl rfl) rfl rfl ?_
   refine reg_nil ?_
   refine fn_roundJ ⟨i + 1, _, rfl, (H15.pick (m := [_]) [0] rfl (by decide)), by omega, rfl⟩ ⟨rfl, trivial⟩ (by omega) (by repeat (first | exact kp_refl | refine kp_app rfl rfl ?_ | refine kp_cons rfl ?_)) rfl
 · exfalso; omega

set_option maxRecDepth 100000 in
theorem rmApply_ok (w0 : World) (r l : List Ob) (a h : Nat) (A : Option Addr) (cap : Nat) (V : List Int) (ps : List Pt) (B : Option Addr) (n c : Nat) (w : World) (s : SzG a h) (hV : V.length = a * h) (hv : ∀ X, HS w0 X l → Rd X A (vi .i64 V)) (H0 : HS w0 w (r ++ l)) (hall : ∀ x ∈ ps, x.ok w0) (hsz : ∀ x ∈ ps, x.o.n ≤ 1500 ∧ x.q.n ≤ 1500) (hps : Rd w0 B (ptCells ps)) (hln : ps.length = n) (hn : n ≤ 20) (hz : ∀ j, j < n → apE a h V ps j = 0) :
    Ret Try.prog 49 [.agg #[.int .i64 (a : Int), .int .i64 (h : Int), .slice A (a * h) cap], .slice B n c] w (fun z w' => ∃ A' cap' l', z = .tuple #[.agg #[.int .i64 (a : Int), .int .i64 (h : Int), .slice A' (a * h) cap'], .int .i64 (n : Int), .int .i64 0] ∧ (∀ X, HS w0 X l' → Rd X A' (vi .i64 (apW a h V ps n))) ∧ HS w0 w' (r ++ l')) := by
 refine ret_enter Try.func49 rfl rfl rfl ?_
 refine cw_seq ?_
 refine cw_reg ?_
 refine reg_op (op_box (cs := [.int _ _, .int _ _, .slice _ _ _]) H0 rfl rfl rfl) rfl rfl ?_
 rintro _ w2 ⟨b1, rfl, H3⟩
 refine reg_op (op_alloc H3 rfl kfmerge3_7) rfl rfl ?_
 rintro _ w5 ⟨b4, rfl, H6⟩
 refine ry (y_asg rfl rfl) rfl rfl ?_
 refine ry (y_asg rfl rfl) rfl rfl ?_
 refine reg_nil ?_
 refine fn_next ?_
 refine cw_seq ?_
 refine cw_seq ?_
 refine cw_reg ?_
 refine ry (y_asg rfl rfl) rfl rfl ?_
 refine reg_nil ?_
 refine fn_next ?_
 refine cw_block ?_
 refine cw_loopJ [5, 6, 7, 8, 9, 10, 11, 12, 13, 14, 15, 16, 17, 18, 19, 20, 21, 22, 23, 24, 25, 26, 27, 28, 29, 30] (fun M wl ml => ∃ (i : Nat) (A' : Option Addr) (cap' : Nat) (lt : List Ob), M = [(7, .int .i64 (i : Int))] ∧ HS w0 wl (Ob.blk b1 [.int .i64 (a : Int), .int .i64 (h : Int), .slice A' (a * h) cap'] 25 :: Ob.blk b4 [.int .i64 0, .int .i64 0, .slice none 0 0] 25 :: (r ++ lt)) ∧ (i ≤ n) ∧ (∀ X, HS w0 X lt → Rd X A' (vi .i64 (apW a h V ps i))) ∧ ml = n - i) ⟨0, A, cap, l, rfl, (H6.pickT (p := [_, _]) (m := [_, _]) [1, 0] rfl (by decide)), Nat.zero_le _, hv, rfl⟩ ⟨rfl, trivial⟩ ?_
 rintro M w7 m9 ⟨i, A', cap', lt, rfl, H8, hp0, hv', rfl⟩
 refine cw_seq ?_
 refine cw_seq ?_
 refine cw_reg ?_
 refine ry (y_mov rfl rfl) rfl rfl ?_
 refine ry (y_mov rfl rfl) rfl rfl ?_
 refine ry (y_len rfl Try.underlying78 rfl) rfl rfl ?_
 refine ry (y_lss rfl rfl rfl) rfl rfl ?_
 refine reg_nil ?_
 refine fn_next ?_
 refine cw_condd rfl (fun h10 => ?_) (fun h10 => ?_)
 ·skip
  have pq : ∀ (j : Nat) (v : Value), ([.int .i64 (pI ps i).x0, .int .i64 (pI ps i).y0, .int .i64 (pI ps i).x1, .int .i64 (pI ps i).y1, .slice (pI ps i).o.A (pI ps i).o.n (pI ps i).o.c, .slice (pI ps i).q.A (pI ps i).q.n (pI ps i).q.c] : List Value)[j]? = some v → (ptCells ps)[i * 6 + j]? = some v := pt_get (pI_get (by omega))
  refine cw_skip ?_
  refine fn_next ?_
  refine cw_seq ?_
  refine cw_block ?_
  refine cw_seq ?_
  refine cw_drawT H8 [0, 1, 2, 3, 4] (.alt (.step 5 (.alt (.step 6 (.alt (.step 7 (.alt (.step 8 (.step 9 (.step 10 (.step 11 (.leaf))))) (.step 9 (.alt (.step 8 (.step 10 (.step 11 (.leaf)))) (.step 10 (.step 8 (.step 11 (.leaf)))))))) (.alt (.step 8 (.alt (.step 7 (.step 9 (.step 10 (.step 11 (.leaf))))) (.step 9 (.step 7 (.step 10 (.step 11 (.leaf))))))) (.step 9 (.alt (.step 7 (.alt (.step 8 (.step 10 (.step 11 (.leaf)))) (.step 10 (.step 8 (.step 11 (.leaf)))))) (.step 8 (.step 7 (.step 10 (.step 11 (.leaf)))))))))) (.step 9 (.step 6 (.alt (.step 7 (.alt (.step 8 (.step 10 (.step 11 (.leaf)))) (.step 10 (.step 8 (.step 11 (.leaf)))))) (.step 8 (.step 7 (.step 10 (.step 11 (.leaf)))))))))) (.step 9 (.step 5 (.step 6 (.alt (.step 7 (.alt (.step 8 (.step 10 (.step 11 (.leaf)))) (.step 10 (.step 8 (.step 11 (.leaf)))))) (.step 8 (.step 7 (.step 10 (.step 11 (.leaf)))))))))) (fun X HX => (HS.left (l := [_, _]) HX)) (by kernel_rfl) (by kernel_rfl) (by rfl) ?_
  simp only [pick, List.getElem?_cons_succ, List.getElem?_cons_zero]
  refine hk_y (fun Y HY => y_ldb (i := 0) (cs := [_, _, _]) HY rfl rfl kfmerge3_8 rfl rfl) rfl rfl ?_
  refine hk_y (fun Y HY => y_mov rfl rfl) rfl rfl ?_
  refine hk_y (fun Y HY => y_mov rfl rfl) rfl rfl ?_
  refine hk_y (fun Y HY => y_iar (i := i) ((hps.below HY.base)) rfl rfl rfl kfmerge3_2 (rfl) (by omega) (rfl) (pq 0 _ rfl)) rfl rfl ?_
  refine hk_y (fun Y HY => y_ldra (cs := [_, _, _, _, _, _]) ((hps.below HY.base)) rfl rfl kfmerge3_3 rfl (by decide) (fun j v hv => pq j v hv)) rfl rfl ?_
  refine hkt_nil [8, 9, 16, 22, 23, 24] (fun M wl => ∃ (b' : Nat) (A2 : Option Addr) (cap2 : Nat) (lt2 : List Ob), M = [(8, .pointer (some ⟨b', 0, none⟩)), (9, .int .i64 (apE a h V ps i))] ∧ HS w0 wl (Ob.blk b' [.int .i64 (a : Int), .int .i64 (h : Int), .slice A2 (a * h) cap2] 25 :: Ob.blk b1 [.int .i64 (a : Int), .int .i64 (h : Int), .slice A' (a * h) cap'] 25 :: Ob.blk b4 [.int .i64 0, .int .i64 0, .slice none 0 0] 25 :: (r ++ lt2)) ∧ (∀ X, HS w0 X lt2 → Rd X A2 (vi .i64 (apW a h V ps (i + 1))))) (fun wX HX => ?_) ?_
  ·skip
   refine tt_alt ?_ ?_
   ·skip
    refine tt_op rfl (op_call (refPApply w0 (_ :: _ :: r) lt a h A' cap' (apW a h V ps i) (pI ps i) _ s ((apW_len i).trans hV) hv' (fun X HX => (hall _ (pI_mem (by omega))).below HX.base) (by have := (hsz _ (pI_mem (show i < ps.length by omega))).1; omega) (by have := (hsz _ (pI_mem (show i < ps.length by omega))).2; omega) HX) rfl kfmerge3_9 ⟨rfl, rfl, trivial⟩) rfl rfl ?_
    rintro _ w12 ⟨P13, Q14, lz15, rfl, hz16, H11⟩
    refine ⟨(HS.left (l := [_, _]) H11), fun w17 e19 => ?_⟩
    have H18 := H11.ext e19
    refine tt_alt ?_ ?_
    ·skip
     refine tt_op rfl (Yd.op (y_mov rfl rfl)) rfl rfl ?_
     rintro _ _ ⟨rfl, rfl⟩
     refine ⟨(HS.left (l := [_, _]) H18), fun w20 e22 => ?_⟩
     have H21 := H18.ext e22
     refine tt_alt ?_ ?_
     ·skip
      refine tt_op rfl (Yd.op (y_ext rfl rfl rfl)) rfl rfl ?_
      rintro _ _ ⟨rfl, rfl⟩
      refine ⟨(HS.left (l := [_, _]) H21), fun w23 e25 => ?_⟩
      have H24 := H21.ext e25
      refine tt_alt ?_ ?_
      ·skip
       refine tt_op rfl (Yd.op (y_ext rfl rfl rfl)) rfl rfl ?_
       rintro _ _ ⟨rfl, rfl⟩
       refine ⟨(HS.left (l := [_, _]) H24), fun w26 e28 => ?_⟩
       have H27 := H24.ext e28
       refine tt_op rfl (op_alloc H27 rfl kfmerge3_7) rfl rfl ?_
       rintro _ w30 ⟨b29, rfl, H31⟩
       refine ⟨(HS.left (l := [_, _]) (H31.pickT (p := [_, _, _]) (m := [_, _]) [1, 2] rfl (by decide))), fun w32 e34 => ?_⟩
       have H33 := H31.ext e34
       refine tt_op rfl (op_st (i := 0) (vs := [.int _ _, .int _ _, .slice _ _ _]) H33 rfl rfl rfl rfl rfl kfmerge3_10 rfl rfl rfl) rfl rfl ?_
       rintro _ w35 H36
       refine ⟨(HS.left (l := [_, _]) (H36.pickT (p := [_, _, _]) (m := [_, _]) [1, 2] rfl (by decide))), fun w37 e39 => ?_⟩
       have H38 := H36.ext e39
       refine tt_op rfl (Yd.op (y_asg rfl rfl)) rfl rfl ?_
       rintro _ _ ⟨rfl, rfl⟩
       refine ⟨(HS.left (l := [_, _]) (H38.pickT (p := [_, _, _]) (m := [_, _]) [1, 2] rfl (by decide))), fun w40 e42 => ?_⟩
       have H41 := H38.ext e42
       exact tt_leaf ⟨b29, P13, Q14, lz15, rfl, H41, hz16⟩ ⟨rfl, rfl, trivial⟩ (by repeat (first | exact kp_refl | refine kp_app rfl rfl ?_ | refine kp_cons rfl ?_))
      refine tt_op rfl (op_alloc H24 rfl kfmerge3_7) rfl rfl ?_
      rintro _ w44 ⟨b43, rfl, H45⟩
      refine ⟨(HS.left (l := [_, _]) (H45.pickT (p := [_, _, _]) (m := [_, _]) [1, 2] rfl (by decide))), fun w46 e48 => ?_⟩
      have H47 := H45.ext e48
      refine tt_alt ?_ ?_
      ·skip
       refine tt_op rfl (Yd.op (y_ext rfl rfl rfl)) rfl rfl ?_
       rintro _ _ ⟨rfl, rfl⟩
       refine ⟨(HS.left (l := [_, _]) (H47.pickT (p := [_, _, _]) (m := [_, _]) [1, 2] rfl (by decide))), fun w49 e51 => ?_⟩
       have H50 := H47.ext e51
       refine tt_op rfl (op_st (i := 0) (vs := [.int _ _, .int _ _, .slice _ _ _]) H50 rfl rfl rfl rfl rfl kfmerge3_10 rfl rfl rfl) rfl rfl ?_
       rintro _ w52 H53
       refine ⟨(HS.left (l := [_, _]) (H53.pickT (p := [_, _, _]) (m := [_, _]) [1, 2] rfl (by decide))), fun w54 e56 => ?_⟩
       have H55 := H53.ext e56
       refine tt_op rfl (Yd.op (y_asg rfl rfl)) rfl rfl ?_
       rintro _ _ ⟨rfl, rfl⟩
       refine ⟨(HS.left (l := [_, _]) (H55.pickT (p := [_, _, _]) (m := [_, _]) [1, 2] rfl (by decide))), fun w57 e59 => ?_⟩
       have H58 := H55.ext e59
       exact tt_leaf ⟨b43, P13, Q14, lz15, rfl, H58, hz16⟩ ⟨rfl, rfl, trivial⟩ (by repeat (first | exact kp_refl | refine kp_app rfl rfl ?_ | refine kp_cons rfl ?_))
      refine tt_op rfl (op_st (i := 0) (vs := [.int _ _, .int _ _, .slice _ _ _]) H47 rfl rfl rfl rfl rfl kfmerge3_10 rfl rfl rfl) rfl rfl ?_
      rintro _ w60 H61
      refine ⟨(HS.left (l := [_, _]) (H61.pickT (p := [_, _, _]) (m := [_, _]) [1, 2] rfl (by decide))), fun w62 e64 => ?_⟩
      have H63 := H61.ext e64
      refine tt_op rfl (Yd.op (y_ext rfl rfl rfl)) rfl rfl ?_
      rintro _ _ ⟨rfl, rfl⟩
      refine ⟨(HS.left (l := [_, _]) (H63.pickT (p := [_, _, _]) (m := [_, _]) [1, 2] rfl (by decide))), fun w65 e67 => ?_⟩
      have H66 := H63.ext e67
      refine tt_op rfl (Yd.op (y_asg rfl rfl)) rfl rfl ?_
      rintro _ _ ⟨rfl, rfl⟩
      refine ⟨(HS.left (l := [_, _]) (H66.pickT (p := [_, _, _]) (m := [_, _]) [1, 2] rfl (by decide))), fun w68 e70 => ?_⟩
      have H69 := H66.ext e70
      exact tt_leaf ⟨b43, P13, Q14, lz15, rfl, H69, hz16⟩ ⟨rfl, rfl, trivial⟩ (by repeat (first | exact kp_refl | refine kp_app rfl rfl ?_ | refine kp_cons rfl ?_))
     refine tt_alt ?_ ?_
     ·skip
      refine tt_op rfl (Yd.op (y_ext rfl rfl rfl)) rfl rfl ?_
      rintro _ _ ⟨rfl, rfl⟩
      refine ⟨(HS.left (l := [_, _]) H21), fun w71 e73 => ?_⟩
      have H72 := H21.ext e73
      refine tt_alt ?_ ?_
      ·skip
       refine tt_op rfl (Yd.op (y_ext rfl rfl rfl)) rfl rfl ?_
       rintro _ _ ⟨rfl, rfl⟩
       refine ⟨(HS.left (l := [_, _]) H72), fun w74 e76 => ?_⟩
       have H75 := H72.ext e76
       refine tt_op rfl (op_alloc H75 rfl kfmerge3_7) rfl rfl ?_
       rintro _ w78 ⟨b77, rfl, H79⟩
       refine ⟨(HS.left (l := [_, _]) (H79.pickT (p := [_, _, _]) (m := [_, _]) [1, 2] rfl (by decide))), fun w80 e82 => ?_⟩
       have H81 := H79.ext e82
       refine tt_op rfl (op_st (i := 0) (vs := [.int _ _, .int _ _, .slice _ _ _]) H81 rfl rfl rfl rfl rfl kfmerge3_10 rfl rfl rfl) rfl rfl ?_
       rintro _ w83 H84
       refine ⟨(HS.left (l := [_, _]) (H84.pickT (p := [_, _, _]) (m := [_, _]) [1, 2] rfl (by decide))), fun w85 e87 => ?_⟩
       have H86 := H84.ext e87
       refine tt_op rfl (Yd.op (y_asg rfl rfl)) rfl rfl ?_
       rintro _ _ ⟨rfl, rfl⟩
       refine ⟨(HS.left (l := [_, _]) (H86.pickT (p := [_, _, _]) (m := [_, _]) [1, 2] rfl (by decide))), fun w88 e90 => ?_⟩
       have H89 := H86.ext e90
       exact tt_leaf ⟨b77, P13, Q14, lz15, rfl, H89, hz16⟩ ⟨rfl, rfl, trivial⟩ (by repeat (first | exact kp_refl | refine kp_app rfl rfl ?_ | refine kp_cons rfl ?_))
      refine tt_op rfl (op_alloc H72 rfl kfmerge3_7) rfl rfl ?_
      rintro _ w92 ⟨b91, rfl, H93⟩
      refine ⟨(HS.left (l := [_, _]) (H93.pickT (p := [_, _, _]) (m := [_, _]) [1, 2] rfl (by decide))), fun w94 e96 => ?_⟩
      have H95 := H93.ext e96
      refine tt_op rfl (Yd.op (y_ext rfl rfl rfl)) rfl rfl ?_
      rintro _ _ ⟨rfl, rfl⟩
      refine ⟨(HS.left (l := [_, _]) (H95.pickT (p := [_, _, _]) (m := [_, _]) [1, 2] rfl (by decide))), fun w97 e99 => ?_⟩
      have H98 := H95.ext e99
      refine tt_op rfl (op_st (i := 0) (vs := [.int _ _, .int _ _, .slice _ _ _]) H98 rfl rfl rfl rfl rfl kfmerge3_10 rfl rfl rfl) rfl rfl ?_
      rintro _ w100 H101
      refine ⟨(HS.left (l := [_, _]) (H101.pickT (p := [_, _, _]) (m := [_, _]) [1, 2] rfl (by decide))), fun w102 e104 => ?_⟩
      have H103 := H101.ext e104
      refine tt_op rfl (Yd.op (y_asg rfl rfl)) rfl rfl ?_
      rintro _ _ ⟨rfl, rfl⟩
      refine ⟨(HS.left (l := [_, _]) (H103.pickT (p := [_, _, _]) (m := [_, _]) [1, 2] rfl (by decide))), fun w105 e107 => ?_⟩
      have H106 := H103.ext e107
      exact tt_leaf ⟨b91, P13, Q14, lz15, rfl, H106, hz16⟩ ⟨rfl, rfl, trivial⟩ (by repeat (first | exact kp_refl | refine kp_app rfl rfl ?_ | refine kp_cons rfl ?_))
     refine tt_op rfl (op_alloc H21 rfl kfmerge3_7) rfl rfl ?_
     rintro _ w109 ⟨b108, rfl, H110⟩
     refine ⟨(HS.left (l := [_, _]) (H110.pickT (p := [_, _, _]) (m := [_, _]) [1, 2] rfl (by decide))), fun w111 e113 => ?_⟩
     have H112 := H110.ext e113
     refine tt_alt ?_ ?_
     ·skip
      refine tt_op rfl (Yd.op (y_ext rfl rfl rfl)) rfl rfl ?_
      rintro _ _ ⟨rfl, rfl⟩
      refine ⟨(HS.left (l := [_, _]) (H112.pickT (p := [_, _, _]) (m := [_, _]) [1, 2] rfl (by decide))), fun w114 e116 => ?_⟩
      have H115 := H112.ext e116
      refine tt_alt ?_ ?_
      ·skip
       refine tt_op rfl (Yd.op (y_ext rfl rfl rfl)) rfl rfl ?_
       rintro _ _ ⟨rfl, rfl⟩
       refine ⟨(HS.left (l := [_, _]) (H115.pickT (p := [_, _, _]) (m := [_, _]) [1, 2] rfl (by decide))), fun w117 e119 => ?_⟩
       have H118 := H115.ext e119
       refine tt_op rfl (op_st (i := 0) (vs := [.int _ _, .int _ _, .slice _ _ _]) H118 rfl rfl rfl rfl rfl kfmerge3_10 rfl rfl rfl) rfl rfl ?_
       rintro _ w120 H121
       refine ⟨(HS.left (l := [_, _]) (H121.pickT (p := [_, _, _]) (m := [_, _]) [1, 2] rfl (by decide))), fun w122 e124 => ?_⟩
       have H123 := H121.ext e124
       refine tt_op rfl (Yd.op (y_asg rfl rfl)) rfl rfl ?_
       rintro _ _ ⟨rfl, rfl⟩
       refine ⟨(HS.left (l := [_, _]) (H123.pickT (p := [_, _, _]) (m := [_, _]) [1, 2] rfl (by decide))), fun w125 e127 => ?_⟩
       have H126 := H123.ext e127
       exact tt_leaf ⟨b108, P13, Q14, lz15, rfl, H126, hz16⟩ ⟨rfl, rfl, trivial⟩ (by repeat (first | exact kp_refl | refine kp_app rfl rfl ?_ | refine kp_cons rfl ?_))
      refine tt_op rfl (op_st (i := 0) (vs := [.int _ _, .int _ _, .slice _ _ _]) H115 rfl rfl rfl rfl rfl kfmerge3_10 rfl rfl rfl) rfl rfl ?_
      rintro _ w128 H129
      refine ⟨(HS.left (l := [_, _]) (H129.pickT (p := [_, _, _]) (m := [_, _]) [1, 2] rfl (by decide))), fun w130 e132 => ?_⟩
      have H131 := H129.ext e132
      refine tt_op rfl (Yd.op (y_ext rfl rfl rfl)) rfl rfl ?_
      rintro _ _ ⟨rfl, rfl⟩
      refine ⟨(HS.left (l := [_, _]) (H131.pickT (p := [_, _, _]) (m := [_, _]) [1, 2] rfl (by decide))), fun w133 e135 => ?_⟩
      have H134 := H131.ext e135
      refine tt_op rfl (Yd.op (y_asg rfl rfl)) rfl rfl ?_
      rintro _ _ ⟨rfl, rfl⟩
      refine ⟨(HS.left (l := [_, _]) (H134.pickT (p := [_, _, _]) (m := [_, _]) [1, 2] rfl (by decide))), fun w136 e138 => ?_⟩
      have H137 := H134.ext e138
      exact tt_leaf ⟨b108, P13, Q14, lz15, rfl, H137, hz16⟩ ⟨rfl, rfl, trivial⟩ (by repeat (first | exact kp_refl | refine kp_app rfl rfl ?_ | refine kp_cons rfl ?_))
     refine tt_op rfl (Yd.op (y_ext rfl rfl rfl)) rfl rfl ?_
     rintro _ _ ⟨rfl, rfl⟩
     refine ⟨(HS.left (l := [_, _]) (H112.pickT (p := [_, _, _]) (m := [_, _]) [1, 2] rfl (by decide))), fun w139 e141 => ?_⟩
     have H140 := H112.ext e141
     refine tt_op rfl (Yd.op (y_ext rfl rfl rfl)) rfl rfl ?_
     rintro _ _ ⟨rfl, rfl⟩
     refine ⟨(HS.left (l := [_, _]) (H140.pickT (p := [_, _, _]) (m := [_, _]) [1, 2] rfl (by decide))), fun w142 e144 => ?_⟩
     have H143 := H140.ext e144
     refine tt_op rfl (op_st (i := 0) (vs := [.int _ _, .int _ _, .slice _ _ _]) H143 rfl rfl rfl rfl rfl kfmerge3_10 rfl rfl rfl) rfl rfl ?_
     rintro _ w145 H146
     refine ⟨(HS.left (l := [_, _]) (H146.pickT (p := [_, _, _]) (m := [_, _]) [1, 2] rfl (by decide))), fun w147 e149 => ?_⟩
     have H148 := H146.ext e149
     refine tt_op rfl (Yd.op (y_asg rfl rfl)) rfl rfl ?_
     rintro _ _ ⟨rfl, rfl⟩
     refine ⟨(HS.left (l := [_, _]) (H148.pickT (p := [_, _, _]) (m := [_, _]) [1, 2] rfl (by decide))), fun w150 e152 => ?_⟩
     have H151 := H148.ext e152
     exact tt_leaf ⟨b108, P13, Q14, lz15, rfl, H151, hz16⟩ ⟨rfl, rfl, trivial⟩ (by repeat (first | exact kp_refl | refine kp_app rfl rfl ?_ | refine kp_cons rfl ?_))
    refine tt_op rfl (op_alloc H18 rfl kfmerge3_7) rfl rfl ?_
    rintro _ w154 ⟨b153, rfl, H155⟩
    refine ⟨(HS.left (l := [_, _]) (H155.pickT (p := [_, _, _]) (m := [_, _]) [1, 2] rfl (by decide))), fun w156 e158 => ?_⟩
    have H157 := H155.ext e158
    refine tt_op rfl (Yd.op (y_mov rfl rfl)) rfl rfl ?_
    rintro _ _ ⟨rfl, rfl⟩
    refine ⟨(HS.left (l := [_, _]) (H157.pickT (p := [_, _, _]) (m := [_, _]) [1, 2] rfl (by decide))), fun w159 e161 => ?_⟩
    have H160 := H157.ext e161
    refine tt_alt ?_ ?_
    ·skip
     refine tt_op rfl (Yd.op (y_ext rfl rfl rfl)) rfl rfl ?_
     rintro _ _ ⟨rfl, rfl⟩
     refine ⟨(HS.left (l := [_, _]) (H160.pickT (p := [_, _, _]) (m := [_, _]) [1, 2] rfl (by decide))), fun w162 e164 => ?_⟩
     have H163 := H160.ext e164
     refine tt_alt ?_ ?_
     ·skip
      refine tt_op rfl (Yd.op (y_ext rfl rfl rfl)) rfl rfl ?_
      rintro _ _ ⟨rfl, rfl⟩
      refine ⟨(HS.left (l := [_, _]) (H163.pickT (p := [_, _, _]) (m := [_, _]) [1, 2] rfl (by decide))), fun w165 e167 => ?_⟩
      have H166 := H163.ext e167
      refine tt_op rfl (op_st (i := 0) (vs := [.int _ _, .int _ _, .slice _ _ _]) H166 rfl rfl rfl rfl rfl kfmerge3_10 rfl rfl rfl) rfl rfl ?_
      rintro _ w168 H169
      refine ⟨(HS.left (l := [_, _]) (H169.pickT (p := [_, _, _]) (m := [_, _]) [1, 2] rfl (by decide))), fun w170 e172 => ?_⟩
      have H171 := H169.ext e172
      refine tt_op rfl (Yd.op (y_asg rfl rfl)) rfl rfl ?_
      rintro _ _ ⟨rfl, rfl⟩
      refine ⟨(HS.left (l := [_, _]) (H171.pickT (p := [_, _, _]) (m := [_, _]) [1, 2] rfl (by decide))), fun w173 e175 => ?_⟩
      have H174 := H171.ext e175
      exact tt_leaf ⟨b153, P13, Q14, lz15, rfl, H174, hz16⟩ ⟨rfl, rfl, trivial⟩ (by repeat (first | exact kp_refl | refine kp_app rfl rfl ?_ | refine kp_cons rfl ?_))
     refine tt_op rfl (op_st (i := 0) (vs := [.int _ _, .int _ _, .slice _ _ _]) H163 rfl rfl rfl rfl rfl kfmerge3_10 rfl rfl rfl) rfl rfl ?_
     rintro _ w176 H177
     refine ⟨(HS.left (l := [_, _]) (H177.pickT (p := [_, _, _]) (m := [_, _]) [1, 2] rfl (by decide))), fun w178 e180 => ?_⟩
     have H179 := H177.ext e180
     refine tt_op rfl (Yd.op (y_ext rfl rfl rfl)) rfl rfl ?_
     rintro _ _ ⟨rfl, rfl⟩
     refine ⟨(HS.left (l := [_, _]) (H179.pickT (p := [_, _, _]) (m := [_, _]) [1, 2] rfl (by decide))), fun w181 e183 => ?_⟩
     have H182 := H179.ext e183
     refine tt_op rfl (Yd.op (y_asg rfl rfl)) rfl rfl ?_
     rintro _ _ ⟨rfl, rfl⟩
     refine ⟨(HS.left (l := [_, _]) (H182.pickT (p := [_, _, _]) (m := [_, _]) [1, 2] rfl (by decide))), fun w184 e186 => ?_⟩
     have H185 := H182.ext e186
     exact tt_leaf ⟨b153, P13, Q14, lz15, rfl, H185, hz16⟩ ⟨rfl, rfl, trivial⟩ (by repeat (first | exact kp_refl | refine kp_app rfl rfl ?_ | refine kp_cons rfl ?_))
    refine tt_op rfl (Yd.op (y_ext rfl rfl rfl)) rfl rfl ?_
    rintro _ _ ⟨rfl, rfl⟩
    refine ⟨(HS.left (l := [_, _]) (H160.pickT (p := [_, _, _]) (m := [_, _]) [1, 2] rfl (by decide))), fun w187 e189 => ?_⟩
    have H188 := H160.ext e189
    refine tt_op rfl (Yd.op (y_ext rfl rfl rfl)) rfl rfl ?_
    rintro _ _ ⟨rfl, rfl⟩
    refine ⟨(HS.left (l := [_, _]) (H188.pickT (p := [_, _, _]) (m := [_, _]) [1, 2] rfl (by decide))), fun w190 e192 => ?_⟩
    have H191 := H188.ext e192
    refine tt_op rfl (op_st (i := 0) (vs := [.int _ _, .int _ _, .slice _ _ _]) H191 rfl rfl rfl rfl rfl kfmerge3_10 rfl rfl rfl) rfl rfl ?_
    rintro _ w193 H194
    refine ⟨(HS.left (l := [_, _]) (H194.pickT (p := [_, _, _]) (m := [_, _]) [1, 2] rfl (by decide))), fun w195 e197 => ?_⟩
    have H196 := H194.ext e197
    refine tt_op rfl (Yd.op (y_asg rfl rfl)) rfl rfl ?_
    rintro _ _ ⟨rfl, rfl⟩
    refine ⟨(HS.left (l := [_, _]) (H196.pickT (p := [_, _, _]) (m := [_, _]) [1, 2] rfl (by decide))), fun w198 e200 => ?_⟩
    have H199 := H196.ext e200
    exact tt_leaf ⟨b153, P13, Q14, lz15, rfl, H199, hz16⟩ ⟨rfl, rfl, trivial⟩ (by repeat (first | exact kp_refl | refine kp_app rfl rfl ?_ | refine kp_cons rfl ?_))
   refine tt_op rfl (op_alloc HX rfl kfmerge3_7) rfl rfl ?_
   rintro _ w202 ⟨b201, rfl, H203⟩
   refine ⟨(HS.left (l := [_, _]) (H203.pickT (p := [_, _, _]) (m := [_, _]) [1, 2] rfl (by decide))), fun w204 e206 => ?_⟩
   have H205 := H203.ext e206
   refine tt_op rfl (op_call (refPApply w0 (_ :: _ :: _ :: r) lt a h A' cap' (apW a h V ps i) (pI ps i) _ s ((apW_len i).trans hV) hv' (fun X HX => (hall _ (pI_mem (by omega))).below HX.base) (by have := (hsz _ (pI_mem (show i < ps.length by omega))).1; omega) (by have := (hsz _ (pI_mem (show i < ps.length by omega))).2; omega) H205) rfl kfmerge3_9 ⟨rfl, rfl, trivial⟩) rfl rfl ?_
   rintro _ w208 ⟨P209, Q210, lz211, rfl, hz212, H207⟩
   refine ⟨(HS.left (l := [_, _]) (H207.pickT (p := [_, _, _]) (m := [_, _]) [1, 2] rfl (by decide))), fun w213 e215 => ?_⟩
   have H214 := H207.ext e215
   refine tt_op rfl (Yd.op (y_mov rfl rfl)) rfl rfl ?_
   rintro _ _ ⟨rfl, rfl⟩
   refine ⟨(HS.left (l := [_, _]) (H214.pickT (p := [_, _, _]) (m := [_, _]) [1, 2] rfl (by decide))), fun w216 e218 => ?_⟩
   have H217 := H214.ext e218
   refine tt_alt ?_ ?_
   ·skip
    refine tt_op rfl (Yd.op (y_ext rfl rfl rfl)) rfl rfl ?_
    rintro _ _ ⟨rfl, rfl⟩
    refine ⟨(HS.left (l := [_, _]) (H217.pickT (p := [_, _, _]) (m := [_, _]) [1, 2] rfl (by decide))), fun w219 e221 => ?_⟩
    have H220 := H217.ext e221
    refine tt_alt ?_ ?_
    ·skip
     refine tt_op rfl (Yd.op (y_ext rfl rfl rfl)) rfl rfl ?_
     rintro _ _ ⟨rfl, rfl⟩
     refine ⟨(HS.left (l := [_, _]) (H220.pickT (p := [_, _, _]) (m := [_, _]) [1, 2] rfl (by decide))), fun w222 e224 => ?_⟩
     have H223 := H220.ext e224
     refine tt_op rfl (op_st (i := 0) (vs := [.int _ _, .int _ _, .slice _ _ _]) H223 rfl rfl rfl rfl rfl kfmerge3_10 rfl rfl rfl) rfl rfl ?_
     rintro _ w225 H226
     refine ⟨(HS.left (l := [_, _]) (H226.pickT (p := [_, _, _]) (m := [_, _]) [1, 2] rfl (by decide))), fun w227 e229 => ?_⟩
     have H228 := H226.ext e229
     refine tt_op rfl (Yd.op (y_asg rfl rfl)) rfl rfl ?_
     rintro _ _ ⟨rfl, rfl⟩
     refine ⟨(HS.left (l := [_, _]) (H228.pickT (p := [_, _, _]) (m := [_, _]) [1, 2] rfl (by decide))), fun w230 e232 => ?_⟩
     have H231 := H228.ext e232
     exact tt_leaf ⟨b201, P209, Q210, lz211, rfl, H231, hz212⟩ ⟨rfl, rfl, trivial⟩ (by repeat (first | exact kp_refl | refine kp_app rfl rfl ?_ | refine kp_cons rfl ?_))
    refine tt_op rfl (op_st (i := 0) (vs := [.int _ _, .int _ _, .slice _ _ _]) H220 rfl rfl rfl rfl rfl kfmerge3_10 rfl rfl rfl) rfl rfl ?_
    rintro _ w233 H234
    refine ⟨(HS.left (l := [_, _]) (H234.pickT (p := [_, _, _]) (m := [_, _]) [1, 2] rfl (by decide))), fun w235 e237 => ?_⟩
    have H236 := H234.ext e237
    refine tt_op rfl (Yd.op (y_ext rfl rfl rfl)) rfl rfl ?_
    rintro _ _ ⟨rfl, rfl⟩
    refine ⟨(HS.left (l := [_, _]) (H236.pickT (p := [_, _, _]) (m := [_, _]) [1, 2] rfl (by decide))), fun w238 e240 => ?_⟩
    have H239 := H236.ext e240
    refine tt_op rfl (Yd.op (y_asg rfl rfl)) rfl rfl ?_
    rintro _ _ ⟨rfl, rfl⟩
    refine ⟨(HS.left (l := [_, _]) (H239.pickT (p := [_, _, _]) (m := [_, _]) [1, 2] rfl (by decide))), fun w241 e243 => ?_⟩
    have H242 := H239.ext e243
    exact tt_leaf ⟨b201, P209, Q210, lz211, rfl, H242, hz212⟩ ⟨rfl, rfl, trivial⟩ (by repeat (first | exact kp_refl | refine kp_app rfl rfl ?_ | refine kp_cons rfl ?_))
   refine tt_op rfl (Yd.op (y_ext rfl rfl rfl)) rfl rfl ?_
   rintro _ _ ⟨rfl, rfl⟩
   refine ⟨(HS.left (l := [_, _]) (H217.pickT (p := [_, _, _]) (m := [_, _]) [1, 2] rfl (by decide))), fun w244 e246 => ?_⟩
   have H245 := H217.ext e246
   refine tt_op rfl (Yd.op (y_ext rfl rfl rfl)) rfl rfl ?_
   rintro _ _ ⟨rfl, rfl⟩
   refine ⟨(HS.left (l := [_, _]) (H245.pickT (p := [_, _, _]) (m := [_, _]) [1, 2] rfl (by decide))), fun w247 e249 => ?_⟩
   have H248 := H245.ext e249
   refine tt_op rfl (op_st (i := 0) (vs := [.int _ _, .int _ _, .slice _ _ _]) H248 rfl rfl rfl rfl rfl kfmerge3_10 rfl rfl rfl) rfl rfl ?_
   rintro _ w250 H251
   refine ⟨(HS.left (l := [_, _]) (H251.pickT (p := [_, _, _]) (m := [_, _]) [1, 2] rfl (by decide))), fun w252 e254 => ?_⟩
   have H253 := H251.ext e254
   refine tt_op rfl (Yd.op (y_asg rfl rfl)) rfl rfl ?_
   rintro _ _ ⟨rfl, rfl⟩
   refine ⟨(HS.left (l := [_, _]) (H253.pickT (p := [_, _, _]) (m := [_, _]) [1, 2] rfl (by decide))), fun w255 e257 => ?_⟩
   have H256 := H253.ext e257
   exact tt_leaf ⟨b201, P209, Q210, lz211, rfl, H256, hz212⟩ ⟨rfl, rfl, trivial⟩ (by repeat (first | exact kp_refl | refine kp_app rfl rfl ?_ | refine kp_cons rfl ?_))
  ·skip
   rintro M w259 ⟨b', A2, cap2, lt2, rfl, H258, hv2⟩
   refine fn_next ?_
   refine cw_seq ?_
   refine cw_seq ?_
   refine cw_reg ?_
   refine ry (y_mov rfl rfl) rfl rfl ?_
   refine ry (y_neq rfl rfl rfl) rfl rfl ?_
   refine reg_nil ?_
   refine fn_next ?_
   refine cw_condd rfl (fun h260 => ?_) (fun h260 => ?_)
   · exact absurd (hz i (by omega)) h260
   ·skip
    refine cw_skip ?_
    refine fn_next ?_
    refine cw_reg ?_
    refine ry (y_ldb (i := 0) (cs := [_, _, _]) H258 rfl rfl kfmerge3_8 rfl rfl) rfl rfl ?_
    refine reg_op (op_st (i := 1) (vs := [.int _ _, .int _ _, .slice _ _ _]) H258 rfl rfl rfl rfl rfl kfmerge3_10 rfl rfl rfl) rfl rfl ?_
    rintro _ w261 H262
    refine reg_nil ?_
    refine fn_block ?_
    refine fn_next ?_
    refine cw_reg ?_
    refine ry (y_mov rfl rfl) rfl rfl ?_
    refine ry (y_add rfl rfl rfl (wi (by omega))) rfl rfl ?_
    refine ry (y_asg rfl rfl) rfl rfl ?_
    refine reg_nil ?_
    refine fn_roundJ ⟨i + 1, A2, cap2, lt2, rfl, (H262.pickT (p := [_, _, _]) (m := [_, _]) [1, 2] rfl (by decide)), by omega, hv2, rfl⟩ ⟨rfl, trivial⟩ (by omega) (by repeat (first | exact kp_refl | refine kp_app rfl rfl ?_ | refine kp_cons rfl ?_)) rfl
 ·skip
  obtain rfl : i = n := by omega
  refine cw_exit ?_
  refine fn_then_exit (fn_then_exit (fn_block_exit ?_))
  refine fn_next ?_
  refine cw_seq ?_
  refine cw_reg ?_
  refine ry (y_ldb (i := 0) (cs := [_, _, _]) H8 rfl rfl kfmerge3_8 rfl rfl) rfl rfl ?_
  refine ry (y_mov rfl rfl) rfl rfl ?_
  refine ry (y_len rfl Try.underlying78 rfl) rfl rfl ?_
  refine reg_op (op_st (i := 1) (vs := [.int _ _, .int _ _, .slice _ _ _]) H8 rfl rfl rfl rfl rfl kfmerge3_10 rfl rfl rfl) rfl rfl ?_
  rintro _ w263 H264
  refine ry (y_asg rfl rfl) rfl rfl ?_
  refine ry (y_asg rfl rfl) rfl rfl ?_
  refine reg_nil ?_
  refine fn_next ?_
  refine cw_ret ?_
  refine fn_retn (vs := [_, _, _]) rfl ⟨⟨_, rfl, load_agg (cs := [_, _, _]) kfmerge3_8 rfl fun j v hv => by rw [Nat.zero_add]; exact H264.cell (i := 1) rfl hv⟩, rfl, rfl, trivial⟩ rfl ?_
  exact ⟨A', cap', lt, rfl, hv', (H264.pickT (p := [_, _]) (m := []) [] rfl (by decide))⟩

set_option maxRecDepth 100000 in
theorem rmApply_bad (w0 : World) (r l : List Ob) (a h : Nat) (A : Option Addr) (cap : Nat) (V : List Int) (ps : List Pt) (B : Option Addr) (n c : Nat) (k : Nat) (w : World) (s : SzG a h) (hV : V.length = a * h) (hv : ∀ X, HS w0 X l → Rd X A (vi .i64 V)) (H0 : HS w0 w (r ++ l)) (hall : ∀ x ∈ ps, x.ok w0) (hsz : ∀ x ∈ ps, x.o.n ≤ 1500 ∧ x.q.n ≤ 1500) (hps : Rd w0 B (ptCells ps)) (hln : ps.length = n) (hn : n ≤ 20) (hk : k < n) (hz : ∀ j, j < k → apE a h V ps j = 0) (hbad : ¬ apE a h V ps k = 0) :
    Ret Try.prog 49 [.agg #[.int .i64 (a : Int), .int .i64 (h : Int), .slice A (a * h) cap], .slice B n c] w (fun z w' => ∃ A' cap' l', z = .tuple #[.agg #[.int .i64 (a : Int), .int .i64 (h : Int), .slice A' (a * h) cap'], .int .i64 (k : Int), .int .i64 (apE a h V ps k)] ∧ HS w0 w' (r ++ l')) := by
 refine ret_enter Try.func49 rfl rfl rfl ?_
 refine cw_seq ?_
 refine cw_reg ?_
 refine reg_op (op_box (cs := [.int _ _, .int _ _, .slice _ _ _]) H0 rfl rfl rfl) rfl rfl ?_
 rintro _ w2 ⟨b1, rfl, H3⟩
 refine reg_op (op_alloc H3 rfl kfmerge3_7) rfl rfl ?_
 rintro _ w5 ⟨b4, rfl, H6⟩
 refine ry (y_asg rfl rfl) rfl rfl ?_
 refine ry (y_asg rfl rfl) rfl rfl ?_
 refine reg_nil ?_
 refine fn_next ?_
 refine cw_seq ?_
 refine cw_seq ?_
 refine cw_reg ?_
 refine ry (y_asg rfl rfl) rfl rfl ?_
 refine reg_nil ?_
 refine fn_next ?_
 refine cw_block ?_
 refine cw_loopJ [5, 6, 7, 8, 9, 10, 11, 12, 13, 14, 15, 16, 17, 18, 19, 20, 21, 22, 23, 24, 25, 26, 27, 28, 29, 30] (fun M wl ml => ∃ (i : Nat) (A' : Option Addr) (cap' : Nat) (lt : List Ob), M = [(7, .int .i64 (i : Int))] ∧ HS w0 wl (Ob.blk b1 [.int .i64 (a : Int), .int .i64 (h : Int), .slice A' (a * h) cap'] 25 :: Ob.blk b4 [.int .i64 0, .int .i64 0, .slice none 0 0] 25 :: (r ++ lt)) ∧ (i ≤ k) ∧ (∀ X, HS w0 X lt → Rd X A' (vi .i64 (apW a h V ps i))) ∧ ml = n - i) ⟨0, A, cap, l, rfl, (H6.pickT (p := [_, _]) (m := [_, _]) [1, 0] rfl (by decide)), Nat.zero_le _, hv, rfl⟩ ⟨rfl, trivial⟩ ?_
 rintro M w7 m9 ⟨i, A', cap', lt, rfl, H8, hp0, hv', rfl⟩
 refine cw_seq ?_
 refine cw_seq ?_
 refine cw_reg ?_
 refine ry (y_mov rfl rfl) rfl rfl ?_
 refine ry (y_mov rfl rfl) rfl rfl ?_
 refine ry (y_len rfl Try.underlying78 rfl) rfl rfl ?_
 refine ry (y_lss rfl rfl rfl) rfl rfl ?_
 refine reg_nil ?_
 refine fn_next ?_
 refine cw_condd rfl (fun h10 => ?_) (fun h10 => ?_)
 ·skip
  have pq : ∀ (j : Nat) (v : Value), ([.int .i64 (pI ps i).x0, .int .i64 (pI ps i).y0, .int .i64 (pI ps i).x1, .int .i64 (pI ps i).y1, .slice (pI ps i).o.A (pI ps i).o.n (pI ps i).o.c, .slice (pI ps i).q.A (pI ps i).q.n (pI ps i).q.c] : List Value)[j]? = some v → (ptCells ps)[i * 6 + j]? = some v := pt_get (pI_get (by omega))
  refine cw_skip ?_
  refine fn_next ?_
  refine cw_seq ?_
  refine cw_block ?_
  refine cw_seq ?_
  refine cw_drawT H8 [0, 1, 2, 3, 4] (.alt (.step 5 (.alt (.step 6 (.alt (.step 7 (.alt (.step 8 (.step 9 (.step 10 (.step 11 (.leaf))))) (.step 9 (.alt (.step 8 (.step 10 (.step 11 (.leaf)))) (.step 10 (.step 8 (.step 11 (.leaf)))))))) (.alt (.step 8 (.alt (.step 7 (.step 9 (.step 10 (.step 11 (.leaf))))) (.step 9 (.step 7 (.step 10 (.step 11 (.leaf))))))) (.step 9 (.alt (.step 7 (.alt (.step 8 (.step 10 (.step 11 (.leaf)))) (.step 10 (.step 8 (.step 11 (.leaf)))))) (.step 8 (.step 7 (.step 10 (.step 11 (.leaf)))))))))) (.step 9 (.step 6 (.alt (.step 7 (.alt (.step 8 (.step 10 (.step 11 (.leaf)))) (.step 10 (.step 8 (.step 11 (.leaf)))))) (.step 8 (.step 7 (.step 10 (.step 11 (.leaf)))))))))) (.step 9 (.step 5 (.step 6 (.alt (.step 7 (.alt (.step 8 (.step 10 (.step 11 (.leaf)))) (.step 10 (.step 8 (.step 11 (.leaf)))))) (.step 8 (.step 7 (.step 10 (.step 11 (.leaf)))))))))) (fun X HX => (HS.left (l := [_, _]) HX)) (by kernel_rfl) (by kernel_rfl) (by rfl) ?_
  simp only [pick, List.getElem?_cons_succ, List.getElem?_cons_zero]
  refine hk_y (fun Y HY => y_ldb (i := 0) (cs := [_, _, _]) HY rfl rfl kfmerge3_8 rfl rfl) rfl rfl ?_
  refine hk_y (fun Y HY => y_mov rfl rfl) rfl rfl ?_
  refine hk_y (fun Y HY => y_mov rfl rfl) rfl rfl ?_
  refine hk_y (fun Y HY => y_iar (i := i) ((hps.below HY.base)) rfl rfl rfl kfmerge3_2 (rfl) (by omega) (rfl) (pq 0 _ rfl)) rfl rfl ?_
  refine hk_y (fun Y HY => y_ldra (cs := [_, _, _, _, _, _]) ((hps.below HY.base)) rfl rfl kfmerge3_3 rfl (by decide) (fun j v hv => pq j v hv)) rfl rfl ?_
  refine hkt_nil [8, 9, 16, 22, 23, 24] (fun M wl => ∃ (b' : Nat) (A2 : Option Addr) (cap2 : Nat) (lt2 : List Ob), M = [(8, .pointer (some ⟨b', 0, none⟩)), (9, .int .i64 (apE a h V ps i))] ∧ HS w0 wl (Ob.blk b' [.int .i64 (a : Int), .int .i64 (h : Int), .slice A2 (a * h) cap2] 25 :: Ob.blk b1 [.int .i64 (a : Int), .int .i64 (h : Int), .slice A' (a * h) cap'] 25 :: Ob.blk b4 [.int .i64 0, .int .i64 0, .slice none 0 0] 25 :: (r ++ lt2)) ∧ (∀ X, HS w0 X lt2 → Rd X A2 (vi .i64 (apW a h V ps (i + 1))))) (fun wX HX => ?_) ?_
  ·skip
   refine tt_alt ?_ ?_
   ·skip
    refine tt_op rfl (op_call (refPApply w0 (_ :: _ :: r) lt a h A' cap' (apW a h V ps i) (pI ps i) _ s ((apW_len i).trans hV) hv' (fun X HX => (hall _ (pI_mem (by omega))).below HX.base) (by have := (hsz _ (pI_mem (show i < ps.length by omega))).1; omega) (by have := (hsz _ (pI_mem (show i < ps.length by omega))).2; omega) HX) rfl kfmerge3_9 ⟨rfl, rfl, trivial⟩) rfl rfl ?_
    rintro _ w12 ⟨P13, Q14, lz15, rfl, hz16, H11⟩
    refine ⟨(HS.left (l := [_, _]) H11), fun w17 e19 => ?_⟩
    have H18 := H11.ext e19
    refine tt_alt ?_ ?_
    ·skip
     refine tt_op rfl (Yd.op (y_mov rfl rfl)) rfl rfl ?_
     rintro _ _ ⟨rfl, rfl⟩
     refine ⟨(HS.left (l := [_, _]) H18), fun w20 e22 => ?_⟩
     have H21 := H18.ext e22
     refine tt_alt ?_ ?_
     ·skip
      refine tt_op rfl (Yd.op (y_ext rfl rfl rfl)) rfl rfl ?_
      rintro _ _ ⟨rfl, rfl⟩
      refine ⟨(HS.left (l := [_, _]) H21), fun w23 e25 => ?_⟩
      have H24 := H21.ext e25
      refine tt_alt ?_ ?_
      ·skip
       refine tt_op rfl (Yd.op (y_ext rfl rfl rfl)) rfl rfl ?_
       rintro _ _ ⟨rfl, rfl⟩
       refine ⟨(HS.left (l := [_, _]) H24), fun w26 e28 => ?_⟩
       have H27 := H24.ext e28
       refine tt_op rfl (op_alloc H27 rfl kfmerge3_7) rfl rfl ?_
       rintro _ w30 ⟨b29, rfl, H31⟩
       refine ⟨(HS.left (l := [_, _]) (H31.pickT (p := [_, _, _]) (m := [_, _]) [1, 2] rfl (by decide))), fun w32 e34 => ?_⟩
       have H33 := H31.ext e34
       refine tt_op rfl (op_st (i := 0) (vs := [.int _ _, .int _ _, .slice _ _ _]) H33 rfl rfl rfl rfl rfl kfmerge3_10 rfl rfl rfl) rfl rfl ?_
       rintro _ w35 H36
       refine ⟨(HS.left (l := [_, _]) (H36.pickT (p := [_, _, _]) (m := [_, _]) [1, 2] rfl (by decide))), fun w37 e39 => ?_⟩
       have H38 := H36.ext e39
       refine tt_op rfl (Yd.op (y_asg rfl rfl)) rfl rfl ?_
       rintro _ _ ⟨rfl, rfl⟩
       refine ⟨(HS.left (l := [_, _]) (H38.pickT (p := [_, _, _]) (m := [_, _]) [1, 2] rfl (by decide))), fun w40 e42 => ?_⟩
       have H41 := H38.ext e42
       exact tt_leaf ⟨b29, P13, Q14, lz15, rfl, H41, hz16⟩ ⟨rfl, rfl, trivial⟩ (by repeat (first | exact kp_refl | refine kp_app rfl rfl ?_ | refine kp_cons rfl ?_))
      refine tt_op rfl (op_alloc H24 rfl kfmerge3_7) rfl rfl ?_
      rintro _ w44 ⟨b43, rfl, H45⟩
      refine ⟨(HS.left (l := [_, _]) (H45.pickT (p := [_, _, _]) (m := [_, _]) [1, 2] rfl (by decide))), fun w46 e48 => ?_⟩
      have H47 := H45.ext e48
      refine tt_alt ?_ ?_
      ·skip
       refine tt_op rfl (Yd.op (y_ext rfl rfl rfl)) rfl rfl ?_
       rintro _ _ ⟨rfl, rfl⟩
       refine ⟨(HS.left (l := [_, _]) (H47.pickT (p := [_, _, _]) (m := [_, _]) [1, 2] rfl (by decide))), fun w49 e51 => ?_⟩
       have H50 := H47.ext e51
       refine tt_op rfl (op_st (i := 0) (vs := [.int _ _, .int _ _, .slice _ _ _]) H50 rfl rfl rfl rfl rfl kfmerge3_10 rfl rfl rfl) rfl rfl ?_
       rintro _ w52 H53
       refine ⟨(HS.left (l := [_, _]) (H53.pickT (p := [_, _, _]) (m := [_, _]) [1, 2] rfl (by decide))), fun w54 e56 => ?_⟩
       have H55 := H53.ext e56
       refine tt_op rfl (Yd.op (y_asg rfl rfl)) rfl rfl ?_
       rintro _ _ ⟨rfl, rfl⟩
       refine ⟨(HS.left (l := [_, _]) (H55.pickT (p := [_, _, _]) (m := [_, _]) [1, 2] rfl (by decide))), fun w57 e59 => ?_⟩
       have H58 := H55.ext e59
       exact tt_leaf ⟨b43, P13, Q14, lz15, rfl, H58, hz16⟩ ⟨rfl, rfl, trivial⟩ (by repeat (first | exact kp_refl | refine kp_app rfl rfl ?_ | refine kp_cons rfl ?_))
      refine tt_op rfl (op_st (i := 0) (vs := [.int _ _, .int _ _, .slice _ _ _]) H47 rfl rfl rfl rfl rfl kfmerge3_10 rfl rfl rfl) rfl rfl ?_
      rintro _ w60 H61
      refine ⟨(HS.left (l := [_, _]) (H61.pickT (p := [_, _, _]) (m := [_, _]) [1, 2] rfl (by decide))), fun w62 e64 => ?_⟩
      have H63 := H61.ext e64
      refine tt_op rfl (Yd.op (y_ext rfl rfl rfl)) rfl rfl ?_
      rintro _ _ ⟨rfl, rfl⟩
      refine ⟨(HS.left (l := [_, _]) (H63.pickT (p := [_, _, _]) (m := [_, _]) [1, 2] rfl (by decide))), fun w65 e67 => ?_⟩
      have H66 := H63.ext e67
      refine tt_op rfl (Yd.op (y_asg rfl rfl)) rfl rfl ?_
      rintro _ _ ⟨rfl, rfl⟩
      refine ⟨(HS.left (l := [_, _]) (H66.pickT (p := [_, _, _]) (m := [_, _]) [1, 2] rfl (by decide))), fun w68 e70 => ?_⟩
      have H69 := H66.ext e70
      exact tt_leaf ⟨b43, P13, Q14, lz15, rfl, H69, hz16⟩ ⟨rfl, rfl, trivial⟩ (by repeat (first | exact kp_refl | refine kp_app rfl rfl ?_ | refine kp_cons rfl ?_))
     refine tt_alt ?_ ?_
     ·skip
      refine tt_op rfl (Yd.op (y_ext rfl rfl rfl)) rfl rfl ?_
      rintro _ _ ⟨rfl, rfl⟩
      refine ⟨(HS.left (l := [_, _]) H21), fun w71 e73 => ?_⟩
      have H72 := H21.ext e73
      refine tt_alt ?_ ?_
      ·skip
       refine tt_op rfl (Yd.op (y_ext rfl rfl rfl)) rfl rfl ?_
       rintro _ _ ⟨rfl, rfl⟩
       refine ⟨(HS.left (l := [_, _]) H72), fun w74 e76 => ?_⟩
       have H75 := H72.ext e76
       refine tt_op rfl (op_alloc H75 rfl kfmerge3_7) rfl rfl ?_
       rintro _ w78 ⟨b77, rfl, H79⟩
       refine ⟨(HS.left (l := [_, _]) (H79.pickT (p := [_, _, _]) (m := [_, _]) [1, 2] rfl (by decide))), fun w80 e82 => ?_⟩
       have H81 := H79.ext e82
       refine tt_op rfl (op_st (i := 0) (vs := [.int _ _, .int _ _, .slice _ _ _]) H81 rfl rfl rfl rfl rfl kfmerge3_10 rfl rfl rfl) rfl rfl ?_
       rintro _ w83 H84
       refine ⟨(HS.left (l := [_, _]) (H84.pickT (p := [_, _, _]) (m := [_, _]) [1, 2] rfl (by decide))), fun w85 e87 => ?_⟩
       have H86 := H84.ext e87
       refine tt_op rfl (Yd.op (y_asg rfl rfl)) rfl rfl ?_
       rintro _ _ ⟨rfl, rfl⟩
       refine ⟨(HS.left (l := [_, _]) (H86.pickT (p := [_, _, _]) (m := [_, _]) [1, 2] rfl (by decide))), fun w88 e90 => ?_⟩
       have H89 := H86.ext e90
       exact tt_leaf ⟨b77, P13, Q14, lz15, rfl, H89, hz16⟩ ⟨rfl, rfl, trivial⟩ (by repeat (first | exact kp_refl | refine kp_app rfl rfl ?_ | refine kp_cons rfl ?_))
      refine tt_op rfl (op_alloc H72 rfl kfmerge3_7) rfl rfl ?_
      rintro _ w92 ⟨b91, rfl, H93⟩
      refine ⟨(HS.left (l := [_, _]) (H93.pickT (p := [_, _, _]) (m := [_, _]) [1, 2] rfl (by decide))), fun w94 e96 => ?_⟩
      have H95 := H93.ext e96
      refine tt_op rfl (Yd.op (y_ext rfl rfl rfl)) rfl rfl ?_
      rintro _ _ ⟨rfl, rfl⟩
      refine ⟨(HS.left (l := [_, _]) (H95.pickT (p := [_, _, _]) (m := [_, _]) [1, 2] rfl (by decide))), fun w97 e99 => ?_⟩
      have H98 := H95.ext e99
      refine tt_op rfl (op_st (i := 0) (vs := [.int _ _, .int _ _, .slice _ _ _]) H98 rfl rfl rfl rfl rfl kfmerge3_10 rfl rfl rfl) rfl rfl ?_
      rintro _ w100 H101
      refine ⟨(HS.left (l := [_, _]) (H101.pickT (p := [_, _, _]) (m := [_, _]) [1, 2] rfl (by decide))), fun w102 e104 => ?_⟩
      have H103 := H101.ext e104
      refine tt_op rfl (Yd.op (y_asg rfl rfl)) rfl rfl ?_
      rintro _ _ ⟨rfl, rfl⟩
      refine ⟨(HS.left (l := [_, _]) (H103.pickT (p := [_, _, _]) (m := [_, _]) [1, 2] rfl (by decide))), fun w105 e107 => ?_⟩
      have H106 := H103.ext e107
      exact tt_leaf ⟨b91, P13, Q14, lz15, rfl, H106, hz16⟩ ⟨rfl, rfl, trivial⟩ (by repeat (first | exact kp_refl | refine kp_app rfl rfl ?_ | refine kp_cons rfl ?_))
     refine tt_op rfl (op_alloc H21 rfl kfmerge3_7) rfl rfl ?_
     rintro _ w109 ⟨b108, rfl, H110⟩
     refine ⟨(HS.left (l := [_, _]) (H110.pickT (p := [_, _, _]) (m := [_, _]) [1, 2] rfl (by decide))), fun w111 e113 => ?_⟩
     have H112 := H110.ext e113
     refine tt_alt ?_ ?_
     ·skip
      refine tt_op rfl (Yd.op (y_ext rfl rfl rfl)) rfl rfl ?_
      rintro _ _ ⟨rfl, rfl⟩
      refine ⟨(HS.left (l := [_, _]) (H112.pickT (p := [_, _, _]) (m := [_, _]) [1, 2] rfl (by decide))), fun w114 e116 => ?_⟩
      have H115 := H112.ext e116
      refine tt_alt ?_ ?_
      ·skip
       refine tt_op rfl (Yd.op (y_ext rfl rfl rfl)) rfl rfl ?_
       rintro _ _ ⟨rfl, rfl⟩
       refine ⟨(HS.left (l := [_, _]) (H115.pickT (p := [_, _, _]) (m := [_, _]) [1, 2] rfl (by decide))), fun w117 e119 => ?_⟩
       have H118 := H115.ext e119
       refine tt_op rfl (op_st (i := 0) (vs := [.int _ _, .int _ _, .slice _ _ _]) H118 rfl rfl rfl rfl rfl kfmerge3_10 rfl rfl rfl) rfl rfl ?_
       rintro _ w120 H121
       refine ⟨(HS.left (l := [_, _]) (H121.pickT (p := [_, _, _]) (m := [_, _]) [1, 2] rfl (by decide))), fun w122 e124 => ?_⟩
       have H123 := H121.ext e124
       refine tt_op rfl (Yd.op (y_asg rfl rfl)) rfl rfl ?_
       rintro _ _ ⟨rfl, rfl⟩
       refine ⟨(HS.left (l := [_, _]) (H123.pickT (p := [_, _, _]) (m := [_, _]) [1, 2] rfl (by decide))), fun w125 e127 => ?_⟩
       have H126 := H123.ext e127
       exact tt_leaf ⟨b108, P13, Q14, lz15, rfl, H126, hz16⟩ ⟨rfl, rfl, trivial⟩ (by repeat (first | exact kp_refl | refine kp_app rfl rfl ?_ | refine kp_cons rfl ?_))
      refine tt_op rfl (op_st (i := 0) (vs := [.int _ _, .int _ _, .slice _ _ _]) H115 rfl rfl rfl rfl rfl kfmerge3_10 rfl rfl rfl) rfl rfl ?_
      rintro _ w128 H129
      refine ⟨(HS.left (l := [_, _]) (H129.pickT (p := [_, _, _]) (m := [_, _]) [1, 2] rfl (by decide))), fun w130 e132 => ?_⟩
      have H131 := H129.ext e132
      refine tt_op rfl (Yd.op (y_ext rfl rfl rfl)) rfl rfl ?_
      rintro _ _ ⟨rfl, rfl⟩
      refine ⟨(HS.left (l := [_, _]) (H131.pickT (p := [_, _, _]) (m := [_, _]) [1, 2] rfl (by decide))), fun w133 e135 => ?_⟩
      have H134 := H131.ext e135
      refine tt_op rfl (Yd.op (y_asg rfl rfl)) rfl rfl ?_
      rintro _ _ ⟨rfl, rfl⟩
      refine ⟨(HS.left (l := [_, _]) (H134.pickT (p := [_, _, _]) (m := [_, _]) [1, 2] rfl (by decide))), fun w136 e138 => ?_⟩
      have H137 := H134.ext e138
      exact tt_leaf ⟨b108, P13, Q14, lz15, rfl, H137, hz16⟩ ⟨rfl, rfl, trivial⟩ (by repeat (first | exact kp_refl | refine kp_app rfl rfl ?_ | refine kp_cons rfl ?_))
     refine tt_op rfl (Yd.op (y_ext rfl rfl rfl)) rfl rfl ?_
     rintro _ _ ⟨rfl, rfl⟩
     refine ⟨(HS.left (l := [_, _]) (H112.pickT (p := [_, _, _]) (m := [_, _]) [1, 2] rfl (by decide))), fun w139 e141 => ?_⟩
     have H140 := H112.ext e141
     refine tt_op rfl (Yd.op (y_ext rfl rfl rfl)) rfl rfl ?_
     rintro _ _ ⟨rfl, rfl⟩
     refine ⟨(HS.left (l := [_, _]) (H140.pickT (p := [_, _, _]) (m := [_, _]) [1, 2] rfl (by decide))), fun w142 e144 => ?_⟩
     have H143 := H140.ext e144
     refine tt_op rfl (op_st (i := 0) (vs := [.int _ _, .int _ _, .slice _ _ _]) H143 rfl rfl rfl rfl rfl kfmerge3_10 rfl rfl rfl) rfl rfl ?_
     rintro _ w145 H146
     refine ⟨(HS.left (l := [_, _]) (H146.pickT (p := [_, _, _]) (m := [_, _]) [1, 2] rfl (by decide))), fun w147 e149 => ?_⟩
     have H148 := H146.ext e149
     refine tt_op rfl (Yd.op (y_asg rfl rfl)) rfl rfl ?_
     rintro _ _ ⟨rfl, rfl⟩
     refine ⟨(HS.left (l := [_, _]) (H148.pickT (p := [_, _, _]) (m := [_, _]) [1, 2] rfl (by decide))), fun w150 e152 => ?_⟩
     have H151 := H148.ext e152
     exact tt_leaf ⟨b108, P13, Q14, lz15, rfl, H151, hz16⟩ ⟨rfl, rfl, trivial⟩ (by repeat (first | exact kp_refl | refine kp_app rfl rfl ?_ | refine kp_cons rfl ?_))
    refine tt_op rfl (op_alloc H18 rfl kfmerge3_7) rfl rfl ?_
    rintro _ w154 ⟨b153, rfl, H155⟩
    refine ⟨(HS.left (l := [_, _]) (H155.pickT (p := [_, _, _]) (m := [_, _]) [1, 2] rfl (by decide))), fun w156 e158 => ?_⟩
    have H157 := H155.ext e158
    refine tt_op rfl (Yd.op (y_mov rfl rfl)) rfl rfl ?_
    rintro _ _ ⟨rfl, rfl⟩
    refine ⟨(HS.left (l := [_, _]) (H157.pickT (p := [_, _, _]) (m := [_, _]) [1, 2] rfl (by decide))), fun w159 e161 => ?_⟩
    have H160 := H157.ext e161
    refine tt_alt ?_ ?_
    ·skip
     refine tt_op rfl (Yd.op (y_ext rfl rfl rfl)) rfl rfl ?_
     rintro _ _ ⟨rfl, rfl⟩
     refine ⟨(HS.left (l := [_, _]) (H160.pickT (p := [_, _, _]) (m := [_, _]) [1, 2] rfl (by decide))), fun w162 e164 => ?_⟩
     have H163 := H160.ext e164
     refine tt_alt ?_ ?_
     ·skip
      refine tt_op rfl (Yd.op (y_ext rfl rfl rfl)) rfl rfl ?_
      rintro _ _ ⟨rfl, rfl⟩
      refine ⟨(HS.left (l := [_, _]) (H163.pickT (p := [_, _, _]) (m := [_, _]) [1, 2] rfl (by decide))), fun w165 e167 => ?_⟩
      have H166 := H163.ext e167
      refine tt_op rfl (op_st (i := 0) (vs := [.int _ _, .int _ _, .slice _ _ _]) H166 rfl rfl rfl rfl rfl kfmerge3_10 rfl rfl rfl) rfl rfl ?_
      rintro _ w168 H169
      refine ⟨(HS.left (l := [_, _]) (H169.pickT (p := [_, _, _]) (m := [_, _]) [1, 2] rfl (by decide))), fun w170 e172 => ?_⟩
      have H171 := H169.ext e172
      refine tt_op rfl (Yd.op (y_asg rfl rfl)) rfl rfl ?_
      rintro _ _ ⟨rfl, rfl⟩
      refine ⟨(HS.left (l := [_, _]) (H171.pickT (p := [_, _, _]) (m := [_, _]) [1, 2] rfl (by decide))), fun w173 e175 => ?_⟩
      have H174 := H171.ext e175
      exact tt_leaf ⟨b153, P13, Q14, lz15, rfl, H174, hz16⟩ ⟨rfl, rfl, trivial⟩ (by repeat (first | exact kp_refl | refine kp_app rfl rfl ?_ | refine kp_cons rfl ?_))
     refine tt_op rfl (op_st (i := 0) (vs := [.int _ _, .int _ _, .slice _ _ _]) H163 rfl rfl rfl rfl rfl kfmerge3_10 rfl rfl rfl) rfl rfl ?_
     rintro _ w176 H177
     refine ⟨(HS.left (l := [_, _]) (H177.pickT (p := [_, _, _]) (m := [_, _]) [1, 2] rfl (by decide))), fun w178 e180 => ?_⟩
     have H179 := H177.ext e180
     refine tt_op rfl (Yd.op (y_ext rfl rfl rfl)) rfl rfl ?_
     rintro _ _ ⟨rfl, rfl⟩
     refine ⟨(HS.left (l := [_, _]) (H179.pickT (p := [_, _, _]) (m := [_, _]) [1, 2] rfl (by decide))), fun w181 e183 => ?_⟩
     have H182 := H179.ext e183
     refine tt_op rfl (Yd.op (y_asg rfl rfl)) rfl rfl ?_
     rintro _ _ ⟨rfl, rfl⟩
     refine ⟨(HS.left (l := [_, _]) (H182.pickT (p := [_, _, _]) (m := [_, _]) [1, 2] rfl (by decide))), fun w184 e186 => ?_⟩
     have H185 := H182.ext e186
     exact tt_leaf ⟨b153, P13, Q14, lz15, rfl, H185, hz16⟩ ⟨rfl, rfl, trivial⟩ (by repeat (first | exact kp_refl | refine kp_app rfl rfl ?_ | refine kp_cons rfl ?_))
    refine tt_op rfl (Yd.op (y_ext rfl rfl rfl)) rfl rfl ?_
    rintro _ _ ⟨rfl, rfl⟩
    refine ⟨(HS.left (l := [_, _]) (H160.pickT (p := [_, _, _]) (m := [_, _]) [1, 2] rfl (by decide))), fun w187 e189 => ?_⟩
    have H188 := H160.ext e189
    refine tt_op rfl (Yd.op (y_ext rfl rfl rfl)) rfl rfl ?_
    rintro _ _ ⟨rfl, rfl⟩
    refine ⟨(HS.left (l := [_, _]) (H188.pickT (p := [_, _, _]) (m := [_, _]) [1, 2] rfl (by decide))), fun w190 e192 => ?_⟩
    have H191 := H188.ext e192
    refine tt_op rfl (op_st (i := 0) (vs := [.int _ _, .int _ _, .slice _ _ _]) H191 rfl rfl rfl rfl rfl kfmerge3_10 rfl rfl rfl) rfl rfl ?_
    rintro _ w193 H194
    refine ⟨(HS.left (l := [_, _]) (H194.pickT (p := [_, _, _]) (m := [_, _]) [1, 2] rfl (by decide))), fun w195 e197 => ?_⟩
    have H196 := H194.ext e197
    refine tt_op rfl (Yd.op (y_asg rfl rfl)) rfl rfl ?_
    rintro _ _ ⟨rfl, rfl⟩
    refine ⟨(HS.left (l := [_, _]) (H196.pickT (p := [_, _, _]) (m := [_, _]) [1, 2] rfl (by decide))), fun w198 e200 => ?_⟩
    have H199 := H196.ext e200
    exact tt_leaf ⟨b153, P13, Q14, lz15, rfl, H199, hz16⟩ ⟨rfl, rfl, trivial⟩ (by repeat (first | exact kp_refl | refine kp_app rfl rfl ?_ | refine kp_cons rfl ?_))
   refine tt_op rfl (op_alloc HX rfl kfmerge3_7) rfl rfl ?_
   rintro _ w202 ⟨b201, rfl, H203⟩
   refine ⟨(HS.left (l := [_, _]) (H203.pickT (p := [_, _, _]) (m := [_, _]) [1, 2] rfl (by decide))), fun w204 e206 => ?_⟩
   have H205 := H203.ext e206
   refine tt_op rfl (op_call (refPApply w0 (_ :: _ :: _ :: r) lt a h A' cap' (apW a h V ps i) (pI ps i) _ s ((apW_len i).trans hV) hv' (fun X HX => (hall _ (pI_mem (by omega))).below HX.base) (by have := (hsz _ (pI_mem (show i < ps.length by omega))).1; omega) (by have := (hsz _ (pI_mem (show i < ps.length by omega))).2; omega) H205) rfl kfmerge3_9 ⟨rfl, rfl, trivial⟩) rfl rfl ?_
   rintro _ w208 ⟨P209, Q210, lz211, rfl, hz212, H207⟩
   refine ⟨(HS.left (l := [_, _]) (H207.pickT (p := [_, _, _]) (m := [_, _]) [1, 2] rfl (by decide))), fun w213 e215 => ?_⟩
   have H214 := H207.ext e215
   refine tt_op rfl (Yd.op (y_mov rfl rfl)) rfl rfl ?_
   rintro _ _ ⟨rfl, rfl⟩
   refine ⟨(HS.left (l := [_, _]) (H214.pickT (p := [_, _, _]) (m := [_, _]) [1, 2] rfl (by decide))), fun w216 e218 => ?_⟩
   have H217 := H214.ext e218
   refine tt_alt ?_ ?_
   ·skip
    refine tt_op rfl (Yd.op (y_ext rfl rfl rfl)) rfl rfl ?_
    rintro _ _ ⟨rfl, rfl⟩
    refine ⟨(HS.left (l := [_, _]) (H217.pickT (p := [_, _, _]) (m := [_, _]) [1, 2] rfl (by decide))), fun w219 e221 => ?_⟩
    have H220 := H217.ext e221
    refine tt_alt ?_ ?_
    ·skip
     refine tt_op rfl (Yd.op (y_ext rfl rfl rfl)) rfl rfl ?_
     rintro _ _ ⟨rfl, rfl⟩
     refine ⟨(HS.left (l := [_, _]) (H220.pickT (p := [_, _, _]) (m := [_, _]) [1, 2] rfl (by decide))), fun w222 e224 => ?_⟩
     have H223 := H220.ext e224
     refine tt_op rfl (op_st (i := 0) (vs := [.int _ _, .int _ _, .slice _ _ _]) H223 rfl rfl rfl rfl rfl kfmerge3_10 rfl rfl rfl) rfl rfl ?_
     rintro _ w225 H226
     refine ⟨(HS.left (l := [_, _]) (H226.pickT (p := [_, _, _]) (m := [_, _]) [1, 2] rfl (by decide))), fun w227 e229 => ?_⟩
     have H228 := H226.ext e229
     refine tt_op rfl (Yd.op (y_asg rfl rfl)) rfl rfl ?_
     rintro _ _ ⟨rfl, rfl⟩
     refine ⟨(HS.left (l := [_, _]) (H228.pickT (p := [_, _, _]) (m := [_, _]) [1, 2] rfl (by decide))), fun w230 e232 => ?_⟩
     have H231 := H228.ext e232
     exact tt_leaf ⟨b201, P209, Q210, lz211, rfl, H231, hz212⟩ ⟨rfl, rfl, trivial⟩ (by repeat (first | exact kp_refl | refine kp_app rfl rfl ?_ | refine kp_cons rfl ?_))
    refine tt_op rfl (op_st (i := 0) (vs := [.int _ _, .int _ _, .slice _ _ _]) H220 rfl rfl rfl rfl rfl kfmerge3_10 rfl rfl rfl) rfl rfl ?_
    rintro _ w233 H234
    refine ⟨(HS.left (l := [_, _]) (H234.pickT (p := [_, _, _]) (m := [_, _]) [1, 2] rfl (by decide))), fun w235 e237 => ?_⟩
    have H236 := H234.ext e237
    refine tt_op rfl (Yd.op (y_ext rfl rfl rfl)) rfl rfl ?_
    rintro _ _ ⟨rfl, rfl⟩
    refine ⟨(HS.left (l := [_, _]) (H236.pickT (p := [_, _, _]) (m := [_, _]) [1, 2] rfl (by decide))), fun w238 e240 => ?_⟩
    have H239 := H236.ext e240
    refine tt_op rfl (Yd.op (y_asg rfl rfl)) rfl rfl ?_
    rintro _ _ ⟨rfl, rfl⟩
    refine ⟨(HS.left (l := [_, _]) (H239.pickT (p := [_, _, _]) (m := [_, _]) [1, 2] rfl (by decide))), fun w241 e243 => ?_⟩
    have H242 := H239.ext e243
    exact tt_leaf ⟨b201, P209, Q210, lz211, rfl, H242, hz212⟩ ⟨rfl, rfl, trivial⟩ (by repeat (first | exact kp_refl | refine kp_app rfl rfl ?_ | refine kp_cons rfl ?_))
   refine tt_op rfl (Yd.op (y_ext rfl rfl rfl)) rfl rfl ?_
   rintro _ _ ⟨rfl, rfl⟩
   refine ⟨(HS.left (l := [_, _]) (H217.pickT (p := [_, _, _]) (m := [_, _]) [1, 2] rfl (by decide))), fun w244 e246 => ?_⟩
   have H245 := H217.ext e246
   refine tt_op rfl (Yd.op (y_ext rfl rfl rfl)) rfl rfl ?_
   rintro _ _ ⟨rfl, rfl⟩
   refine ⟨(HS.left (l := [_, _]) (H245.pickT (p := [_, _, _]) (m := [_, _]) [1, 2] rfl (by decide))), fun w247 e249 => ?_⟩
   have H248 := H245.ext e249
   refine tt_op rfl (op_st (i := 0) (vs := [.int _ _, .int _ _, .slice _ _ _]) H248 rfl rfl rfl rfl rfl kfmerge3_10 rfl rfl rfl) rfl rfl ?_
   rintro _ w250 H251
   refine ⟨(HS.left (l := [_, _]) (H251.pickT (p := [_, _, _]) (m := [_, _]) [1, 2] rfl (by decide))), fun w252 e254 => ?_⟩
   have H253 := H251.ext e254
   refine tt_op rfl (Yd.op (y_asg rfl rfl)) rfl rfl ?_
   rintro _ _ ⟨rfl, rfl⟩
   refine ⟨(HS.left (l := [_, _]) (H253.pickT (p := [_, _, _]) (m := [_, _]) [1, 2] rfl (by decide))), fun w255 e257 => ?_⟩
   have H256 := H253.ext e257
   exact tt_leaf ⟨b201, P209, Q210, lz211, rfl, H256, hz212⟩ ⟨rfl, rfl, trivial⟩ (by repeat (first | exact kp_refl | refine kp_app rfl rfl ?_ | refine kp_cons rfl ?_))
  ·skip
   rintro M w259 ⟨b', A2, cap2, lt2, rfl, H258, hv2⟩
   refine fn_next ?_
   refine cw_seq ?_
   refine cw_seq ?_
   refine cw_reg ?_
   refine ry (y_mov rfl rfl) rfl rfl ?_
   refine ry (y_neq rfl rfl rfl) rfl rfl ?_
   refine reg_nil ?_
   refine fn_next ?_
   refine cw_condd rfl (fun h260 => ?_) (fun h260 => ?_)
   ·skip
    have hik : i = k := by
      rcases Nat.lt_or_eq_of_le hp0 with q | q
      · exact absurd (hz i q) h260
      · exact q
    subst hik
    refine cw_seq ?_
    refine cw_reg ?_
    refine ry (y_ldb (i := 1) (cs := [_, _, _]) H258 rfl rfl kfmerge3_8 rfl rfl) rfl rfl ?_
    refine ry (y_mov rfl rfl) rfl rfl ?_
    refine ry (y_mov rfl rfl) rfl rfl ?_
    refine reg_op (op_st (i := 2) (vs := [.int _ _, .int _ _, .slice _ _ _]) H258 rfl rfl rfl rfl rfl kfmerge3_10 rfl rfl rfl) rfl rfl ?_
    rintro _ w261 H262
    refine ry (y_asg rfl rfl) rfl rfl ?_
    refine ry (y_asg rfl rfl) rfl rfl ?_
    refine reg_nil ?_
    refine fn_next ?_
    refine cw_ret ?_
    refine fn_then_ret (fn_block_ret (fn_then_ret (fn_then_ret (fn_block_ret (fn_then_ret ?_)))))
    refine fn_retn (vs := [_, _, _]) rfl ⟨⟨_, rfl, load_agg (cs := [_, _, _]) kfmerge3_8 rfl fun j v hv => by rw [Nat.zero_add]; exact H262.cell (i := 2) rfl hv⟩, rfl, rfl, trivial⟩ rfl ?_
    exact ⟨A', cap', lt2, rfl, (H262.pickT (p := [_, _, _]) (m := []) [] rfl (by decide))⟩
   ·skip
    have hik : i ≠ k := fun e => by subst e; exact h260 hbad
    refine cw_skip ?_
    refine fn_next ?_
    refine cw_reg ?_
    refine ry (y_ldb (i := 0) (cs := [_, _, _]) H258 rfl rfl kfmerge3_8 rfl rfl) rfl rfl ?_
    refine reg_op (op_st (i := 1) (vs := [.int _ _, .int _ _, .slice _ _ _]) H258 rfl rfl rfl rfl rfl kfmerge3_10 rfl rfl rfl) rfl rfl ?_
    rintro _ w263 H264
    refine reg_nil ?_
    refine fn_block ?_
    refine fn_next ?_
    refine cw_reg ?_
    refine ry (y_mov rfl rfl) rfl rfl ?_
    refine ry (y_add rfl rfl rfl (wi (by omega))) rfl rfl ?_
    refine ry (y_asg rfl rfl) rfl rfl ?_
    refine reg_nil ?_
    refine fn_roundJ ⟨i + 1, A2, cap2, lt2, rfl, (H264.pickT (p := [_, _, _]) (m := [_, _]) [1, 2] rfl (by decide)), by omega, hv2, rfl⟩ ⟨rfl, trivial⟩ (by omega) (by repeat (first | exact kp_refl | refine kp_app rfl rfl ?_ | refine kp_cons rfl ?_)) rfl
 · exfalso; omega

end Go.Proofs.Ytbhmkpnihgjlnaa
