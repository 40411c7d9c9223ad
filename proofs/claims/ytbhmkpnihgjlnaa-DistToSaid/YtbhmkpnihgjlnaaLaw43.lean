/- Layer 43: the laws. -/
import Derived.Test.YtbhmkpnihgjlnaaDist3
import Derived.Test.YtbhmkpnihgjlnaaLand2
set_option linter.unusedVariables false
set_option linter.unusedSimpArgs false
namespace Go.Proofs.Ytbhmkpnihgjlnaa
open Go Go.RowKit
theorem kflaw43_1 : (Try.prog.info? 2).map (fun i => (i.size, i.zero.map Value.cells)) = some (1, some (List.toArray [(.int .i64 0)])) := by kernel_rfl
theorem kflaw43_2 : callB Try.prog 52 = true := by kernel_rfl
theorem kflaw43_3 : callB Try.prog 18 = true := by kernel_rfl
theorem kflaw43_4 : callB Try.prog 37 = true := by kernel_rfl
theorem kflaw43_5 : callB Try.prog 15 = true := by kernel_rfl
theorem kflaw43_6 : aggB Try.prog 46 2 = true := by kernel_rfl
theorem kflaw43_7 : callB Try.prog 26 = true := by kernel_rfl
theorem kflaw43_8 : (Try.prog.info? 46).bind (fun i => i.zero.map Value.cells) = some (List.toArray [(.int .i64 0), (.int .i64 0)]) := by kernel_rfl
theorem kflaw43_9 : szB Try.prog 46 2 = true := by kernel_rfl
theorem kflaw43_10 : callB Try.prog 34 = true := by kernel_rfl
theorem kflaw43_11 : callB Try.prog 35 = true := by kernel_rfl
theorem kflaw43_12 : seqB Try.prog 46 2 = true := by kernel_rfl
theorem kflaw43_13 : callB Try.prog 16 = true := by kernel_rfl
theorem kflaw43_14 : (Try.prog.info? 25).bind (fun i => i.zero.map Value.cells) = some (List.toArray [(.int .i64 0), (.int .i64 0), (.slice none 0 0)]) := by kernel_rfl
theorem kflaw43_15 : szB Try.prog 25 3 = true := by kernel_rfl
theorem kflaw43_16 : callB Try.prog 17 = true := by kernel_rfl
theorem kflaw43_17 : elB Try.prog 22 1 = true := by kernel_rfl
theorem kflaw43_18 : oneB Try.prog 2 = true := by kernel_rfl
theorem kflaw43_19 : aggB Try.prog 25 3 = true := by kernel_rfl
theorem kflaw43_20 : callB Try.prog 27 = true := by kernel_rfl
theorem kflaw43_21 : callB Try.prog 28 = true := by kernel_rfl
theorem kflaw43_22 : callB Try.prog 36 = true := by kernel_rfl
theorem kflaw43_23 : (Try.prog.info? 46).map (fun i => (i.size, i.zero.map Value.cells)) = some (2, some (List.toArray [(.int .i64 0), (.int .i64 0)])) := by kernel_rfl
theorem kflaw43_24 : (Try.prog.info? 46).map (fun i => (i.zero.map (·.cells.toList), i.size, i.bytes)) = some (some [(.int .i64 0), (.int .i64 0)], 2, 16) := by kernel_rfl
theorem kflaw43_25 : callB Try.prog 24 = true := by kernel_rfl
theorem bne_iff {p q : Prop} [Decidable p] [Decidable q] (h : p ↔ q) : Value.bool (!(decide p == decide q)) = Value.bool false := by have e : decide p = decide q := decide_eq_decide.2 h; rw [e]; simp
theorem amx_lt' {L : List Int} {k n : Nat} (h : k < n) : amx L k < n := by
  rcases (amx_spec (L := L) k).1 with e | e <;> omega
theorem toF_bd {V : List Int} {a h k : Nat} {t : Int} (s : SzG a h) (hl : V.length = a * h) (hk : k < a * h) : -1 ≤ toF V a t k ∧ toF V a t k ≤ 2046 := by
  unfold toF
  cases e : nr V a k t V.length with
  | none => exact ⟨(by decide : (-1 : Int) ≤ -1), (by decide : (-1 : Int) ≤ 2046)⟩
  | some b =>
    have := l1_lt s hk (show b < a * h by rw [← hl]; exact (nr_some e).1)
    exact ⟨by show (-1 : Int) ≤ (l1 a k b : Int); omega, by show (l1 a k b : Int) ≤ 2046; omega⟩
theorem steps_ok {V : List Int} {a h i : Nat} {t u : Int} (s : SzG a h) (hl : V.length = a * h) (hi : i < a * h) (htu : t ≤ u) :
    ¬ (nth (toL V a t (a * h)) i < 0 ∧ nth (toL V a u (a * h)) i ≥ 0) ∧ ¬ (nth (toL V a u (a * h)) i ≥ 0 ∧ nth (toL V a u (a * h)) i < nth (toL V a t (a * h)) i) ∧ (nth (toL V a t (a * h)) i = 0 ↔ nth V i ≥ t) ∧
    (0 < i % a → nth (toL V a t (a * h)) i - nth (toL V a t (a * h)) (i - 1) ≤ 1 ∧ nth (toL V a t (a * h)) (i - 1) - nth (toL V a t (a * h)) i ≤ 1) ∧
    (a ≤ i → nth (toL V a t (a * h)) i - nth (toL V a t (a * h)) (i - a) ≤ 1 ∧ nth (toL V a t (a * h)) (i - a) - nth (toL V a t (a * h)) i ≤ 1) := by
  have ha : 0 < a := by have := s.1; omega
  rw [toL_at hi, toL_at hi]
  refine ⟨fun ⟨q1, q2⟩ => ?_, fun ⟨q1, q2⟩ => ?_, toF_zero ha (by rw [hl]; exact hi), fun c => ?_, fun c => ?_⟩
  · have hu : ¬ noS V u := fun z => by rw [toF_no z] at q2; omega
    exact (toF_mono (a := a) (k := i) htu hu).1 (toF_neg.1 q1)
  · have hu : ¬ noS V u := fun z => by rw [toF_no z] at q1; omega
    have := (toF_mono (a := a) (k := i) htu hu).2
    omega
  · rw [toL_at (show i - 1 < a * h by omega)]
    have h1 := l1_left ha c
    exact ⟨toF_step h1, toF_step (by rw [l1_comm]; exact h1)⟩
  · rw [toL_at (show i - a < a * h by omega)]
    have h1 := l1_up ha c
    exact ⟨toF_step h1, toF_step (by rw [l1_comm]; exact h1)⟩

set_option maxRecDepth 100000 in
theorem distAwake  (w : World) :
    Ret Try.prog 15 [] w (fun v w' => v = .bool true ∧ Below w.heap.size w w') := by
 obtain ⟨e1, e2⟩ := aw43
 refine ret_enter Try.func15 rfl rfl rfl ?_
 have H0 := HS.start w
 refine cw_seq ?_
 refine cw_reg ?_
 refine ry (y_asg rfl rfl) rfl rfl ?_
 refine reg_nil ?_
 refine fn_next ?_
 refine cw_seq ?_
 refine cw_reg ?_
 refine reg_op (op_lit (parts := [(0, _), (1, _), (2, _), (3, _)]) (vs := [(0, _), (1, _), (2, _), (3, _)]) (cs := [.int _ _, .int _ _, .int _ _, .int _ _]) H0 rfl Try.underlying22 kflaw43_1 rfl ⟨rfl, rfl, rfl, rfl, trivial⟩ rfl rfl) rfl rfl ?_
 rintro _ w2 ⟨b1, rfl, H3⟩
 have H4 := H3.asrow (m := 4) (size := 1) rfl (by decide)
 refine reg_op (op_call (gFrom_ok 4 1 [0, 9, 0, 0] _ 4 _ _ (H4.rd (i := 0) rfl) rfl (by decide) ⟨by decide, by decide, by decide, by decide⟩ e1) rfl kflaw43_2 ⟨rfl, rfl, rfl, trivial⟩) rfl rfl ?_
 rintro _ w6 ⟨g8, bl9, rfl, k5⟩
 have H7 := H4.call k5
 refine ry (y_mov rfl rfl) rfl rfl ?_
 refine ry (y_ext rfl rfl rfl) rfl rfl ?_
 refine ry (y_ext rfl rfl rfl) rfl rfl ?_
 refine ry (y_asg rfl rfl) rfl rfl ?_
 refine ry (y_asg rfl rfl) rfl rfl ?_
 refine reg_nil ?_
 refine fn_next ?_
 refine cw_seq ?_
 refine cw_reg ?_
 refine ry (y_mov rfl rfl) rfl rfl ?_
 refine reg_op (op_call (dTo g8 4 1 ([0, 9, 0, 0]) 5 _ (H7.rdg (i := 0) rfl)) rfl kflaw43_3 ⟨rfl, rfl, trivial⟩) rfl rfl ?_
 rintro _ w11 ⟨A13, c14, rfl, k10⟩
 have H12 := H7.call k10
 rw [e2] at H12
 refine ry (y_mov rfl rfl) rfl rfl ?_
 refine ry (y_ext rfl rfl rfl) rfl rfl ?_
 refine ry (y_ext rfl rfl rfl) rfl rfl ?_
 refine ry (y_asg rfl rfl) rfl rfl ?_
 refine ry (y_asg rfl rfl) rfl rfl ?_
 refine reg_nil ?_
 refine fn_next ?_
 refine cw_seq ?_
 refine cw_reg ?_
 refine ry (y_mov rfl rfl) rfl rfl ?_
 refine ry (y_eql rfl rfl rfl) rfl rfl ?_
 refine ry (y_mov rfl rfl) rfl rfl ?_
 refine rgy (y_mov rfl rfl) rfl rfl rfl rfl ?_
 refine rgy (y_eql rfl rfl rfl) rfl rfl rfl rfl ?_
 refine ry (y_pick rfl rfl rfl) rfl rfl ?_
 refine ry (y_mov rfl rfl) rfl rfl ?_
 refine rgy (y_mov rfl rfl) rfl rfl rfl rfl ?_
 refine rg_on rfl rfl rfl (op_lit (parts := [(0, _), (1, _), (2, _), (3, _)]) (vs := [(0, _), (1, _), (2, _), (3, _)]) (cs := [.int _ _, .int _ _, .int _ _, .int _ _]) H12 rfl Try.underlying22 kflaw43_1 rfl ⟨rfl, rfl, rfl, rfl, trivial⟩ rfl rfl) rfl ?_
 rintro _ w16 ⟨b15, rfl, H17⟩
 have H18 := H17.asrow (m := 4) (size := 1) rfl (by decide)
 refine rg_on rfl rfl rfl (op_call (ret_v (v := .bool true) (refSame_any _ (4 * 1) _ ([1, 0, 1, 2]) _ (4 * 1) _ ([1, 0, 1, 2]) _ (H18.rd (i := 1) rfl) (rfl) (H18.rd (i := 0) rfl) (rfl) (by omega)) (by rw [decide_eq_true (rfl)])) rfl kflaw43_4 ⟨rfl, rfl, trivial⟩) rfl ?_
 rintro _ w20 ⟨rfl, e19⟩
 have H21 := H18.ext e19
 refine ry (y_pick rfl rfl rfl) rfl rfl ?_
 refine ry (y_asg rfl rfl) rfl rfl ?_
 refine reg_nil ?_
 refine fn_next ?_
 refine cw_ret ?_
 refine fn_ret1 rfl rfl ?_
 exact ⟨rfl, H21.base⟩

set_option maxRecDepth 100000 in
theorem distNil_all (cx cy t n : Int) (w : World) :
    Ret Try.prog 9 [.agg #[.int .i64 cx, .int .i64 cy], .int .i64 t, .int .i64 n] w (fun z w' => z = .bool true ∧ Below w.heap.size w w') := by
 refine ret_enter Try.func9 rfl rfl rfl ?_
 have H0 := HS.start w
 refine cw_seq ?_
 refine cw_reg ?_
 refine reg_op (op_box (cs := [.int _ _, .int _ _]) H0 rfl rfl rfl) rfl rfl ?_
 rintro _ w2 ⟨b1, rfl, H3⟩
 refine ry (y_asg rfl rfl) rfl rfl ?_
 refine reg_nil ?_
 refine fn_next ?_
 refine cw_seq ?_
 refine cw_seq ?_
 refine cw_reg ?_
 refine reg_op (op_call (distAwake _) rfl kflaw43_5 trivial) rfl rfl ?_
 rintro _ w5 ⟨rfl, e4⟩
 have H6 := H3.ext e4
 refine ry (y_not rfl rfl) rfl rfl ?_
 refine reg_nil ?_
 refine fn_next ?_
 refine cw_condf rfl ?_
 refine cw_skip ?_
 refine fn_next ?_
 refine cw_seq ?_
 refine cw_reg ?_
 refine ry (y_mov rfl rfl) rfl rfl ?_
 refine reg_op (op_call (dNil_To _ _) rfl kflaw43_3 ⟨rfl, rfl, trivial⟩) rfl rfl ?_
 rintro _ w8 ⟨rfl, e7⟩
 have H9 := H6.ext e7
 refine ry (y_mov rfl rfl) rfl rfl ?_
 refine ry (y_ext rfl rfl rfl) rfl rfl ?_
 refine ry (y_ext rfl rfl rfl) rfl rfl ?_
 refine ry (y_asg rfl rfl) rfl rfl ?_
 refine ry (y_asg rfl rfl) rfl rfl ?_
 refine reg_nil ?_
 refine fn_next ?_
 refine cw_seq ?_
 refine cw_reg ?_
 refine ry (y_ldb (i := 0) (cs := [_, _]) H9 rfl rfl kflaw43_6 rfl rfl) rfl rfl ?_
 refine ry (y_mov rfl rfl) rfl rfl ?_
 refine reg_op (op_call (dNil_Nearest _ _ _ _) rfl kflaw43_7 ⟨rfl, rfl, rfl, trivial⟩) rfl rfl ?_
 rintro _ w11 ⟨rfl, e10⟩
 have H12 := H9.ext e10
 refine ry (y_mov rfl rfl) rfl rfl ?_
 refine ry (y_ext rfl rfl rfl) rfl rfl ?_
 refine ry (y_ext rfl rfl rfl) rfl rfl ?_
 refine ry (y_ext rfl rfl rfl) rfl rfl ?_
 refine ry (y_ext rfl rfl rfl) rfl rfl ?_
 refine reg_op (op_alloc H12 rfl kflaw43_8) rfl rfl ?_
 rintro _ w14 ⟨b13, rfl, H15⟩
 refine reg_op (op_st (i := 0) (vs := [.int _ _, .int _ _]) H15 rfl rfl rfl rfl rfl kflaw43_9 rfl rfl rfl) rfl rfl ?_
 rintro _ w16 H17
 refine ry (y_asg rfl rfl) rfl rfl ?_
 refine ry (y_asg rfl rfl) rfl rfl ?_
 refine ry (y_asg rfl rfl) rfl rfl ?_
 refine reg_nil ?_
 refine fn_next ?_
 refine cw_seq ?_
 refine cw_reg ?_
 refine ry (y_mov rfl rfl) rfl rfl ?_
 refine ry (y_mov rfl rfl) rfl rfl ?_
 refine reg_op (op_call (dNil_Within _ _ _) rfl kflaw43_10 ⟨rfl, rfl, rfl, trivial⟩) rfl rfl ?_
 rintro _ w19 ⟨rfl, e18⟩
 have H20 := H17.ext e18
 refine ry (y_mov rfl rfl) rfl rfl ?_
 refine ry (y_ext rfl rfl rfl) rfl rfl ?_
 refine ry (y_ext rfl rfl rfl) rfl rfl ?_
 refine ry (y_asg rfl rfl) rfl rfl ?_
 refine ry (y_asg rfl rfl) rfl rfl ?_
 refine reg_nil ?_
 refine fn_next ?_
 refine cw_seq ?_
 refine cw_reg ?_
 refine ry (y_mov rfl rfl) rfl rfl ?_
 refine reg_op (op_call (dNil_Farthest _ _) rfl kflaw43_11 ⟨rfl, rfl, trivial⟩) rfl rfl ?_
 rintro _ w22 ⟨rfl, e21⟩
 have H23 := H20.ext e21
 refine ry (y_mov rfl rfl) rfl rfl ?_
 refine ry (y_ext rfl rfl rfl) rfl rfl ?_
 refine ry (y_ext rfl rfl rfl) rfl rfl ?_
 refine ry (y_ext rfl rfl rfl) rfl rfl ?_
 refine ry (y_ext rfl rfl rfl) rfl rfl ?_
 refine reg_op (op_alloc H23 rfl kflaw43_8) rfl rfl ?_
 rintro _ w25 ⟨b24, rfl, H26⟩
 refine reg_op (op_st (i := 0) (vs := [.int _ _, .int _ _]) H26 rfl rfl rfl rfl rfl kflaw43_9 rfl rfl rfl) rfl rfl ?_
 rintro _ w27 H28
 refine ry (y_asg rfl rfl) rfl rfl ?_
 refine ry (y_asg rfl rfl) rfl rfl ?_
 refine ry (y_asg rfl rfl) rfl rfl ?_
 refine reg_nil ?_
 refine fn_next ?_
 refine cw_seq ?_
 refine cw_reg ?_
 refine ry (y_build (places := [(0, 1), (1, 1)]) (parts := []) (vs := []) (cs := [.int _ _, .int _ _]) rfl Try.underlying46 (by kernel_rfl) kflaw43_8 rfl trivial rfl) rfl rfl ?_
 refine reg_op (op_alloc H28 rfl kflaw43_8) rfl rfl ?_
 rintro _ w30 ⟨b29, rfl, H31⟩
 refine reg_op (op_st (i := 0) (vs := [.int _ _, .int _ _]) H31 rfl rfl rfl rfl rfl kflaw43_9 rfl rfl rfl) rfl rfl ?_
 rintro _ w32 H33
 refine reg_nil ?_
 refine fn_next ?_
 refine cw_seq ?_
 refine cw_reg ?_
 refine ry (y_mov rfl rfl) rfl rfl ?_
 refine ry (y_len rfl Try.underlying22 rfl) rfl rfl ?_
 refine ry (y_eql rfl rfl rfl) rfl rfl ?_
 refine ry (y_mov rfl rfl) rfl rfl ?_
 refine rg_splitd (d := 52) rfl (fun h34 => ?_) (fun h34 => ?_)
 ·skip
  refine rgy (y_mov rfl rfl) rfl rfl rfl rfl ?_
  refine rgy (y_eql rfl rfl rfl) rfl rfl rfl rfl ?_
  refine ry (y_pick rfl rfl rfl) rfl rfl ?_
  refine ry (y_mov rfl rfl) rfl rfl ?_
  refine rgy (y_ldb (i := 2) (cs := [_, _]) H33 rfl rfl kflaw43_6 rfl rfl) rfl rfl rfl rfl ?_
  refine rgy (y_ldb (i := 0) (cs := [_, _]) H33 rfl rfl kflaw43_6 rfl rfl) rfl rfl rfl rfl ?_
  refine rgy (yv (congrArg Value.bool (decide_eq_true (rfl))) (y_seq (ks := [.i64, .i64]) (a := [0, 0]) (b := [0, 0]) rfl (.inl ⟨rfl, rfl⟩) kflaw43_12 rfl rfl rfl rfl rfl rfl rfl)) rfl rfl rfl rfl ?_
  refine ry (y_pick rfl rfl rfl) rfl rfl ?_
  refine ry (y_mov rfl rfl) rfl rfl ?_
  refine rgy (y_mov rfl rfl) rfl rfl rfl rfl ?_
  refine rgy (y_eql rfl rfl rfl) rfl rfl rfl rfl ?_
  refine ry (y_pick rfl rfl rfl) rfl rfl ?_
  refine ry (y_mov rfl rfl) rfl rfl ?_
  refine rgy (y_mov rfl rfl) rfl rfl rfl rfl ?_
  refine rgy (y_not rfl rfl) rfl rfl rfl rfl ?_
  refine ry (y_pick rfl rfl rfl) rfl rfl ?_
  refine ry (y_mov rfl rfl) rfl rfl ?_
  refine rgy (y_mov rfl rfl) rfl rfl rfl rfl ?_
  refine rgy (y_eql rfl rfl rfl) rfl rfl rfl rfl ?_
  refine ry (y_pick rfl rfl rfl) rfl rfl ?_
  refine ry (y_mov rfl rfl) rfl rfl ?_
  refine rgy (y_mov rfl rfl) rfl rfl rfl rfl ?_
  refine rgy (y_len rfl Try.underlying35 rfl) rfl rfl rfl rfl ?_
  refine rgy (y_eql rfl rfl rfl) rfl rfl rfl rfl ?_
  refine ry (y_pick rfl rfl rfl) rfl rfl ?_
  refine ry (y_mov rfl rfl) rfl rfl ?_
  refine rg_splitd (d := 78) rfl (fun h35 => ?_) (fun h35 => ?_)
  ·skip
   refine rgy (y_mov rfl rfl) rfl rfl rfl rfl ?_
   refine rgy (y_eql rfl rfl rfl) rfl rfl rfl rfl ?_
   refine ry (y_pick rfl rfl rfl) rfl rfl ?_
   refine ry (y_mov rfl rfl) rfl rfl ?_
   refine rgy (y_ldb (i := 1) (cs := [_, _]) H33 rfl rfl kflaw43_6 rfl rfl) rfl rfl rfl rfl ?_
   refine rgy (y_ldb (i := 0) (cs := [_, _]) H33 rfl rfl kflaw43_6 rfl rfl) rfl rfl rfl rfl ?_
   refine rgy (yv (congrArg Value.bool (decide_eq_true (rfl))) (y_seq (ks := [.i64, .i64]) (a := [0, 0]) (b := [0, 0]) rfl (.inl ⟨rfl, rfl⟩) kflaw43_12 rfl rfl rfl rfl rfl rfl rfl)) rfl rfl rfl rfl ?_
   refine ry (y_pick rfl rfl rfl) rfl rfl ?_
   refine ry (y_mov rfl rfl) rfl rfl ?_
   refine rgy (y_mov rfl rfl) rfl rfl rfl rfl ?_
   refine rgy (y_eql rfl rfl rfl) rfl rfl rfl rfl ?_
   refine ry (y_pick rfl rfl rfl) rfl rfl ?_
   refine ry (y_mov rfl rfl) rfl rfl ?_
   refine rgy (y_mov rfl rfl) rfl rfl rfl rfl ?_
   refine rgy (y_not rfl rfl) rfl rfl rfl rfl ?_
   refine ry (y_pick rfl rfl rfl) rfl rfl ?_
   refine ry (y_mov rfl rfl) rfl rfl ?_
   refine rgy (y_mov rfl rfl) rfl rfl rfl rfl ?_
   refine rgy (y_eql rfl rfl rfl) rfl rfl rfl rfl ?_
   refine ry (y_pick rfl rfl rfl) rfl rfl ?_
   refine ry (y_asg rfl rfl) rfl rfl ?_
   refine reg_nil ?_
   refine fn_next ?_
   refine cw_ret ?_
   refine fn_ret1 rfl rfl ?_
   exact ⟨rfl, H33.base⟩
  · exact absurd rfl h35
 · exact absurd rfl h34

theorem distNil_law (cx cy : Int) (t : Int) (n : Int) (W : World) (bcx : I6 cx) (bcy : I6 cy) (bt : I6 t) (bn : I6 n) :
    Calls Try.prog 9 #[.agg #[.int .i64 cx, .int .i64 cy], .int .i64 t, .int .i64 n] W fun e w' => e = .returned (.bool true) ∧ Below W.heap.size W w' := lawOf (distNil_all cx cy t n W)

set_option maxRecDepth 100000 in
theorem distSteps_no (a h : Int) (L : List Int) (A : Option Addr) (n cap : Nat) (t u : Int) (w : World) (ha : I6 a) (hh : I6 h) (hr : Rd w A (vi .i64 L)) (hl : L.length = n) (hp : ¬ LandP a h (1000 : Nat) L) :
    Ret Try.prog 3 [.int .i64 a, .int .i64 h, .slice A n cap, .int .i64 t, .int .i64 u] w (fun z w' => z = .bool true ∧ Below w.heap.size w w') := by
 refine ret_enter Try.func3 rfl rfl rfl ?_
 have H0 := HS.start w
 refine cw_seq ?_
 refine cw_reg ?_
 refine ry (y_asg rfl rfl) rfl rfl ?_
 refine reg_nil ?_
 refine fn_next ?_
 refine cw_seq ?_
 refine cw_seq ?_
 refine cw_reg ?_
 refine reg_op (op_call (distAwake _) rfl kflaw43_5 trivial) rfl rfl ?_
 rintro _ w2 ⟨rfl, e1⟩
 have H3 := H0.ext e1
 refine ry (y_not rfl rfl) rfl rfl ?_
 refine reg_nil ?_
 refine fn_next ?_
 refine cw_condf rfl ?_
 refine cw_skip ?_
 refine fn_next ?_
 refine cw_seq ?_
 refine cw_reg ?_
 refine ry (y_mov rfl rfl) rfl rfl ?_
 refine ry (y_mov rfl rfl) rfl rfl ?_
 refine ry (y_mov rfl rfl) rfl rfl ?_
 refine reg_op (op_call (land_any a h 1000 L A n cap _ ha hh (by decide) (hr.below H3.base) hl) rfl kflaw43_13 ⟨rfl, rfl, rfl, rfl, trivial⟩) rfl rfl ?_
 rintro _ w5 ⟨rfl, e4⟩
 have H6 := H3.ext e4
 refine ry (y_mov rfl rfl) rfl rfl ?_
 refine ry (y_ext rfl rfl rfl) rfl rfl ?_
 refine ry (y_ext rfl rfl rfl) rfl rfl ?_
 refine reg_op (op_alloc H6 rfl kflaw43_14) rfl rfl ?_
 rintro _ w8 ⟨b7, rfl, H9⟩
 refine reg_op (op_st (i := 0) (vs := [.int _ _, .int _ _, .slice _ _ _]) H9 rfl rfl rfl rfl rfl kflaw43_15 rfl rfl rfl) rfl rfl ?_
 rintro _ w10 H11
 refine ry (y_asg rfl rfl) rfl rfl ?_
 refine reg_nil ?_
 refine fn_next ?_
 refine cw_seq ?_
 refine cw_seq ?_
 refine cw_reg ?_
 refine ry (y_mov rfl rfl) rfl rfl ?_
 refine ry (y_notd rfl rfl) rfl rfl ?_
 refine ry (y_mov rfl rfl) rfl rfl ?_
 refine rg_splitd (d := 30) rfl (fun h12 => ?_) (fun h12 => ?_)
 ·skip
  refine rg_off rfl rfl rfl rfl rfl ?_
  refine rg_off rfl rfl rfl rfl rfl ?_
  refine rg_off rfl rfl rfl rfl rfl ?_
  refine ry (y_pick rfl rfl rfl) rfl rfl ?_
  refine reg_nil ?_
  refine fn_next ?_
  refine cw_condt rfl ?_
  refine cw_seq ?_
  refine cw_reg ?_
  refine ry (y_asg rfl rfl) rfl rfl ?_
  refine reg_nil ?_
  refine fn_next ?_
  refine cw_ret ?_
  refine fn_then_ret ?_
  refine fn_ret1 rfl rfl ?_
  exact ⟨rfl, H11.base⟩
 · exact absurd (Classical.not_not.1 h12) hp

set_option maxRecDepth 100000 in
set_option maxHeartbeats 2000000 in
theorem distSteps_ok (a h : Nat) (L : List Int) (A : Option Addr) (cap : Nat) (t u : Int) (w : World) (h1 : 1 ≤ a) (h2 : a ≤ 1000) (h3 : 1 ≤ h) (h4 : h ≤ 1000) (h5 : a * h ≤ 1000) (hr : Rd w A (vi .i64 L)) (hl : L.length = a * h) (hb : AllB L) :
    Ret Try.prog 3 [.int .i64 (a : Int), .int .i64 (h : Int), .slice A (a * h) cap, .int .i64 t, .int .i64 u] w (fun z w' => z = .bool true ∧ Below w.heap.size w w') := by
 have s : SzG a h := ⟨h1, by omega, h3, by omega⟩
 refine ret_enter Try.func3 rfl rfl rfl ?_
 have H0 := HS.start w
 refine cw_seq ?_
 refine cw_reg ?_
 refine ry (y_asg rfl rfl) rfl rfl ?_
 refine reg_nil ?_
 refine fn_next ?_
 refine cw_seq ?_
 refine cw_seq ?_
 refine cw_reg ?_
 refine reg_op (op_call (distAwake _) rfl kflaw43_5 trivial) rfl rfl ?_
 rintro _ w2 ⟨rfl, e1⟩
 have H3 := H0.ext e1
 refine ry (y_not rfl rfl) rfl rfl ?_
 refine reg_nil ?_
 refine fn_next ?_
 refine cw_condf rfl ?_
 refine cw_skip ?_
 refine fn_next ?_
 refine cw_seq ?_
 refine cw_reg ?_
 refine ry (y_mov rfl rfl) rfl rfl ?_
 refine ry (y_mov rfl rfl) rfl rfl ?_
 refine ry (y_mov rfl rfl) rfl rfl ?_
 refine reg_op (op_call (land_ok a h 1000 L A (a * h) cap _ h1 h2 h3 h4 h5 rfl hl hb (by decide) (hr.below H3.base)) rfl kflaw43_13 ⟨rfl, rfl, rfl, rfl, trivial⟩) rfl rfl ?_
 rintro _ w5 ⟨rfl, e4⟩
 have H6 := H3.ext e4
 refine ry (y_mov rfl rfl) rfl rfl ?_
 refine ry (y_ext rfl rfl rfl) rfl rfl ?_
 refine ry (y_ext rfl rfl rfl) rfl rfl ?_
 refine reg_op (op_alloc H6 rfl kflaw43_14) rfl rfl ?_
 rintro _ w8 ⟨b7, rfl, H9⟩
 refine reg_op (op_st (i := 0) (vs := [.int _ _, .int _ _, .slice _ _ _]) H9 rfl rfl rfl rfl rfl kflaw43_15 rfl rfl rfl) rfl rfl ?_
 rintro _ w10 H11
 refine ry (y_asg rfl rfl) rfl rfl ?_
 refine reg_nil ?_
 refine fn_next ?_
 refine cw_seq ?_
 refine cw_seq ?_
 refine cw_reg ?_
 refine ry (y_mov rfl rfl) rfl rfl ?_
 refine ry (y_not rfl rfl) rfl rfl ?_
 refine ry (y_mov rfl rfl) rfl rfl ?_
 refine rgy (y_mov rfl rfl) rfl rfl rfl rfl ?_
 refine rgy (y_mov rfl rfl) rfl rfl rfl rfl ?_
 refine rgy (y_gtr rfl rfl rfl) rfl rfl rfl rfl ?_
 refine ry (y_pick rfl rfl rfl) rfl rfl ?_
 refine reg_nil ?_
 refine fn_next ?_
 refine cw_condd rfl (fun h12 => ?_) (fun h12 => ?_)
 ·skip
  refine cw_seq ?_
  refine cw_reg ?_
  refine ry (y_asg rfl rfl) rfl rfl ?_
  refine reg_nil ?_
  refine fn_next ?_
  refine cw_ret ?_
  refine fn_then_ret ?_
  refine fn_ret1 rfl rfl ?_
  exact ⟨rfl, H11.base⟩
 ·skip
  have htu : t ≤ u := by omega
  refine cw_skip ?_
  refine fn_next ?_
  refine cw_seq ?_
  refine cw_reg ?_
  refine ry (y_mov rfl rfl) rfl rfl ?_
  refine ry (y_mov rfl rfl) rfl rfl ?_
  refine ry (y_mov rfl rfl) rfl rfl ?_
  refine reg_op (op_call (made_ok a h L A (a * h) cap _ s hl rfl hb (hr.below H11.base)) rfl kflaw43_16 ⟨rfl, rfl, rfl, trivial⟩) rfl rfl ?_
  rintro _ w14 ⟨g16, bl17, rfl, k13⟩
  have H15 := H11.call k13
  refine ry (y_mov rfl rfl) rfl rfl ?_
  refine ry (y_ext rfl rfl rfl) rfl rfl ?_
  refine ry (y_ext rfl rfl rfl) rfl rfl ?_
  refine ry (y_asg rfl rfl) rfl rfl ?_
  refine ry (y_asg rfl rfl) rfl rfl ?_
  refine reg_nil ?_
  refine fn_next ?_
  refine cw_seq ?_
  refine cw_seq ?_
  refine cw_reg ?_
  refine ry (y_mov rfl rfl) rfl rfl ?_
  refine ry (y_not rfl rfl) rfl rfl ?_
  refine reg_nil ?_
  refine fn_next ?_
  refine cw_condf rfl ?_
  refine cw_skip ?_
  refine fn_next ?_
  refine cw_seq ?_
  refine cw_reg ?_
  refine ry (y_mov rfl rfl) rfl rfl ?_
  refine ry (y_mov rfl rfl) rfl rfl ?_
  refine reg_op (op_call (dTo g16 a h (L) t _ (H15.rdg (i := 0) rfl)) rfl kflaw43_3 ⟨rfl, rfl, trivial⟩) rfl rfl ?_
  rintro _ w19 ⟨A21, c22, rfl, k18⟩
  have H20 := H15.call k18
  refine ry (y_mov rfl rfl) rfl rfl ?_
  refine ry (y_ext rfl rfl rfl) rfl rfl ?_
  refine ry (y_ext rfl rfl rfl) rfl rfl ?_
  refine ry (y_asg rfl rfl) rfl rfl ?_
  refine ry (y_asg rfl rfl) rfl rfl ?_
  refine reg_nil ?_
  refine fn_next ?_
  refine cw_seq ?_
  refine cw_reg ?_
  refine ry (y_mov rfl rfl) rfl rfl ?_
  refine ry (y_mov rfl rfl) rfl rfl ?_
  refine reg_op (op_call (dTo g16 a h (L) u _ (H20.rdg (i := 1) rfl)) rfl kflaw43_3 ⟨rfl, rfl, trivial⟩) rfl rfl ?_
  rintro _ w24 ⟨A26, c27, rfl, k23⟩
  have H25 := H20.call k23
  refine ry (y_mov rfl rfl) rfl rfl ?_
  refine ry (y_ext rfl rfl rfl) rfl rfl ?_
  refine ry (y_ext rfl rfl rfl) rfl rfl ?_
  refine ry (y_asg rfl rfl) rfl rfl ?_
  refine ry (y_asg rfl rfl) rfl rfl ?_
  refine reg_nil ?_
  refine fn_next ?_
  refine cw_seq ?_
  refine cw_seq ?_
  refine cw_reg ?_
  refine ry (y_mov rfl rfl) rfl rfl ?_
  refine ry (y_neq rfl rfl rfl) rfl rfl ?_
  refine ry (y_mov rfl rfl) rfl rfl ?_
  refine rgy (y_mov rfl rfl) rfl rfl rfl rfl ?_
  refine rgy (y_neq rfl rfl rfl) rfl rfl rfl rfl ?_
  refine ry (y_pick rfl rfl rfl) rfl rfl ?_
  refine ry (y_mov rfl rfl) rfl rfl ?_
  refine rgy (y_mov rfl rfl) rfl rfl rfl rfl ?_
  refine rgy (y_len rfl Try.underlying22 rfl) rfl rfl rfl rfl ?_
  refine rgy (y_mov rfl rfl) rfl rfl rfl rfl ?_
  refine rgy (y_len rfl Try.underlying22 rfl) rfl rfl rfl rfl ?_
  refine rgy (y_neq rfl rfl rfl) rfl rfl rfl rfl ?_
  refine ry (y_pick rfl rfl rfl) rfl rfl ?_
  refine ry (y_mov rfl rfl) rfl rfl ?_
  refine rg_splitd (d := 69) rfl (fun h28 => ?_) (fun h28 => ?_)
  · exact absurd rfl h28
  ·skip
   refine rgy (y_mov rfl rfl) rfl rfl rfl rfl ?_
   refine rgy (y_len rfl Try.underlying22 rfl) rfl rfl rfl rfl ?_
   refine rgy (y_mov rfl rfl) rfl rfl rfl rfl ?_
   refine rgy (y_len rfl Try.underlying22 rfl) rfl rfl rfl rfl ?_
   refine rgy (y_neq rfl rfl rfl) rfl rfl rfl rfl ?_
   refine ry (y_pick rfl rfl rfl) rfl rfl ?_
   refine reg_nil ?_
   refine fn_next ?_
   refine cw_condd rfl (fun h29 => ?_) (fun h29 => ?_)
   · exact absurd rfl h29
   ·skip
    refine cw_skip ?_
    refine fn_next ?_
    refine cw_seq ?_
    refine cw_seq ?_
    refine cw_reg ?_
    refine ry (y_asg rfl rfl) rfl rfl ?_
    refine reg_nil ?_
    refine fn_next ?_
    refine cw_block ?_
    refine cw_loopJ [10, 18, 76, 77, 78, 79, 80, 81, 82, 83, 84, 85, 86, 87, 88, 89, 90, 91, 92, 93, 94, 95, 96, 97, 98, 99, 100, 101, 102, 103, 104, 105, 106, 107, 108, 109, 110, 111, 112, 113, 114, 115, 116, 117, 118, 119, 120, 121, 122, 123, 124, 125, 126, 127, 128, 129, 130, 131, 132, 133, 134, 135, 136, 137, 138, 139, 140, 141, 142, 143, 144, 145, 146, 147, 148, 149, 150, 151, 152, 153, 154, 155, 156, 157, 158, 159, 160, 161, 162, 163, 164, 165, 166, 167, 168, 169, 170, 171, 172, 173, 174, 175, 176, 177, 178, 179, 180, 181, 182, 183, 184, 185, 186, 187, 188, 189] (fun M wl ml => ∃ (i : Nat), M = [(18, .int .i64 (i : Int))] ∧ HS w wl [Ob.row A21 (a * h) c22 (vi .i64 (toL (L) a t (a * h))) 2 1, Ob.row A26 (a * h) c27 (vi .i64 (toL (L) a u (a * h))) 2 1] ∧ (i ≤ a * h) ∧ ml = a * h - i) ⟨0, rfl, (H25.pick (m := [_, _]) [1, 0] rfl (by decide)), Nat.zero_le _, rfl⟩ ⟨rfl, trivial⟩ ?_
    rintro M w30 m32 ⟨i, rfl, H31, hp0, rfl⟩
    refine cw_seq ?_
    refine cw_seq ?_
    refine cw_reg ?_
    refine ry (y_mov rfl rfl) rfl rfl ?_
    refine ry (y_mov rfl rfl) rfl rfl ?_
    refine ry (y_mov rfl rfl) rfl rfl ?_
    refine ry (y_mul rfl rfl rfl (mulN (by omega))) rfl rfl ?_
    refine ry (y_lss rfl rfl rfl) rfl rfl ?_
    refine reg_nil ?_
    refine fn_next ?_
    refine cw_condd rfl (fun h33 => ?_) (fun h33 => ?_)
    ·skip
     have hi : i < a * h := by omega
     obtain ⟨f1, f2, f3, f4, f5⟩ := steps_ok s hl hi htu
     have ga := vi_get (k := .i64) (zs := (toL L a t (a * h))) (i := i) (by first | (rw [toL_len]; omega) | omega)
     have gb := vi_get (k := .i64) (zs := (toL L a u (a * h))) (i := i) (by first | (rw [toL_len]; omega) | omega)
     have gl := vi_get (k := .i64) (zs := (toL L a t (a * h))) (i := i - 1) (by first | (rw [toL_len]; omega) | omega)
     have gu := vi_get (k := .i64) (zs := (toL L a t (a * h))) (i := i - a) (by first | (rw [toL_len]; omega) | omega)
     have gv := vi_get (k := .i64) (zs := L) (i := i) (by first | (rw [toL_len]; omega) | omega)
     have b1 := toF_bd (V := L) (t := t) s hl hi
     have b2 := toF_bd (V := L) (t := t) s hl (show i - 1 < a * h by omega)
     have b3 := toF_bd (V := L) (t := t) s hl (show i - a < a * h by omega)
     rw [← toL_at (show _ < a * h by omega)] at b1 b2 b3
     refine cw_skip ?_
     refine fn_next ?_
     refine cw_seq ?_
     refine cw_block ?_
     refine cw_seq ?_
     refine cw_seq ?_
     refine cw_draw H31 [0, 1, 2, 3, 4, 5, 6, 7, 8, 9, 10, 11, 12, 13, 14, 15, 16, 17, 18, 19, 20, 21, 22, 23, 24, 25, 26, 27, 28, 29, 30, 31, 32, 33, 34, 35, 36, 37, 38, 39, 40, 41, 42, 43] [] (fun X HX => HX) (by kernel_rfl) (by kernel_rfl) (by rfl) ?_
     simp only [pick, List.getElem?_cons_succ, List.getElem?_cons_zero]
     refine hk_y (fun Y HY => y_mov rfl rfl) rfl rfl ?_
     refine hk_y (fun Y HY => y_mov rfl rfl) rfl rfl ?_
     refine hk_y (fun Y HY => y_iar (HY.rd (i := 0) rfl) rfl rfl rfl kflaw43_17 (rfl) (by omega) (Nat.mul_one _) (ga)) rfl rfl ?_
     refine hk_y (fun Y HY => y_ldr (HY.rd (i := 0) rfl) rfl rfl kflaw43_18 (ga)) rfl rfl ?_
     refine hk_y (fun Y HY => y_lss rfl rfl rfl) rfl rfl ?_
     refine hk_y (fun Y HY => y_mov rfl rfl) rfl rfl ?_
     refine hk_splitd tv_all (d := 88) rfl (fun h34 => ?_) (fun h34 => ?_)
     ·skip
      have n1 := h34
      refine hk_on (qy_yd fun Y HY => y_mov rfl rfl) rfl rfl rfl rfl ?_
      refine hk_on (qy_yd fun Y HY => y_mov rfl rfl) rfl rfl rfl rfl ?_
      refine hk_on (qy_yd fun Y HY => y_iar (HY.rd (i := 1) rfl) rfl rfl rfl kflaw43_17 (rfl) (by omega) (Nat.mul_one _) (gb)) rfl rfl rfl rfl ?_
      refine hk_on (qy_yd fun Y HY => y_ldr (HY.rd (i := 1) rfl) rfl rfl kflaw43_18 (gb)) rfl rfl rfl rfl ?_
      refine hk_on (qy_yd fun Y HY => y_geq rfl rfl rfl) rfl rfl rfl rfl ?_
      refine hk_y (fun Y HY => y_pick rfl rfl rfl) rfl rfl ?_
      refine hk_y (fun Y HY => y_mov rfl rfl) rfl rfl ?_
      refine hk_splitd tv_all (d := 95) rfl (fun h35 => ?_) (fun h35 => ?_)
      · exact absurd ⟨n1, h35⟩ f1
      ·skip
       refine hk_on (qy_yd fun Y HY => y_mov rfl rfl) rfl rfl rfl rfl ?_
       refine hk_on (qy_yd fun Y HY => y_mov rfl rfl) rfl rfl rfl rfl ?_
       refine hk_on (qy_yd fun Y HY => y_iar (HY.rd (i := 1) rfl) rfl rfl rfl kflaw43_17 (rfl) (by omega) (Nat.mul_one _) (gb)) rfl rfl rfl rfl ?_
       refine hk_on (qy_yd fun Y HY => y_ldr (HY.rd (i := 1) rfl) rfl rfl kflaw43_18 (gb)) rfl rfl rfl rfl ?_
       refine hk_on (qy_yd fun Y HY => y_geq rfl rfl rfl) rfl rfl rfl rfl ?_
       refine hk_on (qy_yd fun Y HY => y_mov rfl rfl) rfl rfl rfl rfl ?_
       refine hk_splitd tv_all (d := 101) rfl (fun h36 => ?_) (fun h36 => ?_)
       ·skip
        refine hk_on (qy_yd fun Y HY => y_mov rfl rfl) rfl rfl rfl rfl ?_
        refine hk_on (qy_yd fun Y HY => y_mov rfl rfl) rfl rfl rfl rfl ?_
        refine hk_on (qy_yd fun Y HY => y_iar (HY.rd (i := 1) rfl) rfl rfl rfl kflaw43_17 (rfl) (by omega) (Nat.mul_one _) (gb)) rfl rfl rfl rfl ?_
        refine hk_on (qy_yd fun Y HY => y_ldr (HY.rd (i := 1) rfl) rfl rfl kflaw43_18 (gb)) rfl rfl rfl rfl ?_
        refine hk_on (qy_yd fun Y HY => y_mov rfl rfl) rfl rfl rfl rfl ?_
        refine hk_on (qy_yd fun Y HY => y_mov rfl rfl) rfl rfl rfl rfl ?_
        refine hk_on (qy_yd fun Y HY => y_iar (HY.rd (i := 0) rfl) rfl rfl rfl kflaw43_17 (rfl) (by omega) (Nat.mul_one _) (ga)) rfl rfl rfl rfl ?_
        refine hk_on (qy_yd fun Y HY => y_ldr (HY.rd (i := 0) rfl) rfl rfl kflaw43_18 (ga)) rfl rfl rfl rfl ?_
        refine hk_on (qy_yd fun Y HY => y_lss rfl rfl rfl) rfl rfl rfl rfl ?_
        refine hk_on (qy_yd fun Y HY => y_pick rfl rfl rfl) rfl rfl rfl rfl ?_
        refine hk_y (fun Y HY => y_pick rfl rfl rfl) rfl rfl ?_
        refine hk_y (fun Y HY => y_mov rfl rfl) rfl rfl ?_
        refine hk_splitd tv_all (d := 113) rfl (fun h37 => ?_) (fun h37 => ?_)
        · exfalso; omega
        ·skip
         refine hk_on (qy_yd fun Y HY => y_mov rfl rfl) rfl rfl rfl rfl ?_
         refine hk_on (qy_yd fun Y HY => y_mov rfl rfl) rfl rfl rfl rfl ?_
         refine hk_on (qy_yd fun Y HY => y_iar (HY.rd (i := 0) rfl) rfl rfl rfl kflaw43_17 (rfl) (by omega) (Nat.mul_one _) (ga)) rfl rfl rfl rfl ?_
         refine hk_on (qy_yd fun Y HY => y_ldr (HY.rd (i := 0) rfl) rfl rfl kflaw43_18 (ga)) rfl rfl rfl rfl ?_
         refine hk_on (qy_yd fun Y HY => y_eql rfl rfl rfl) rfl rfl rfl rfl ?_
         refine hk_on (qy_yd fun Y HY => y_mov rfl rfl) rfl rfl rfl rfl ?_
         refine hk_on (qy_yd fun Y HY => y_mov rfl rfl) rfl rfl rfl rfl ?_
         refine hk_on (qy_yd fun Y HY => y_iar (hr.below HY.base) rfl rfl rfl kflaw43_17 (rfl) (by omega) (Nat.mul_one _) (gv)) rfl rfl rfl rfl ?_
         refine hk_on (qy_yd fun Y HY => y_ldr (hr.below HY.base) rfl rfl kflaw43_18 (gv)) rfl rfl rfl rfl ?_
         refine hk_on (qy_yd fun Y HY => y_mov rfl rfl) rfl rfl rfl rfl ?_
         refine hk_on (qy_yd fun Y HY => y_geq rfl rfl rfl) rfl rfl rfl rfl ?_
         refine hk_on (qy_yd fun Y HY => yv (bne_iff f3) (y_bneq rfl Try.underlying4 rfl rfl)) rfl rfl rfl rfl ?_
         refine hk_y (fun Y HY => y_pick rfl rfl rfl) rfl rfl ?_
         refine hk_nil ?_
         intro w38 H39
         refine tv_nil ?_
         refine fn_next ?_
         refine cw_condf rfl ?_
         refine cw_skip ?_
         refine fn_next ?_
         refine cw_seq ?_
         refine cw_draw H39 [0, 1, 2, 3, 4, 5, 6, 7, 8, 9, 10, 11, 12, 13, 14, 15, 16, 17, 18, 19, 20, 21, 22, 23, 24, 25, 26, 27, 28, 29, 30, 31, 32, 33, 34, 35, 36, 37, 38, 39, 40, 41, 42, 43, 44, 45, 46, 47, 48, 49, 50, 51, 52, 53, 54, 55, 56, 57, 58, 59, 60, 61, 62] [] (fun X HX => HX) (by kernel_rfl) (by kernel_rfl) (by rfl) ?_
         simp only [pick, List.getElem?_cons_succ, List.getElem?_cons_zero]
         refine hk_y (fun Y HY => y_mov rfl rfl) rfl rfl ?_
         refine hk_y (fun Y HY => y_mov rfl rfl) rfl rfl ?_
         refine hk_y (fun Y HY => y_rem rfl rfl rfl (by omega) (remN)) rfl rfl ?_
         refine hk_y (fun Y HY => y_gtr rfl rfl rfl) rfl rfl ?_
         refine hk_y (fun Y HY => y_mov rfl rfl) rfl rfl ?_
         refine hk_splitd tv_all (d := 131) rfl (fun h40 => ?_) (fun h40 => ?_)
         ·skip
          have hip := pos_of_mod (show 0 < i % a by omega)
          refine hk_on (qy_yd fun Y HY => y_mov rfl rfl) rfl rfl rfl rfl ?_
          refine hk_on (qy_yd fun Y HY => y_mov rfl rfl) rfl rfl rfl rfl ?_
          refine hk_on (qy_yd fun Y HY => y_iar (HY.rd (i := 0) rfl) rfl rfl rfl kflaw43_17 (rfl) (by omega) (Nat.mul_one _) (ga)) rfl rfl rfl rfl ?_
          refine hk_on (qy_yd fun Y HY => y_ldr (HY.rd (i := 0) rfl) rfl rfl kflaw43_18 (ga)) rfl rfl rfl rfl ?_
          refine hk_on (qy_yd fun Y HY => y_mov rfl rfl) rfl rfl rfl rfl ?_
          refine hk_on (qy_yd fun Y HY => y_mov rfl rfl) rfl rfl rfl rfl ?_
          refine hk_on (qy_yd fun Y HY => y_sub rfl rfl rfl (show _ = ((i - 1 : Nat) : Int) from (wi (by omega)).trans (by omega))) rfl rfl rfl rfl ?_
          refine hk_on (qy_yd fun Y HY => y_iar (HY.rd (i := 0) rfl) rfl rfl rfl kflaw43_17 (rfl) (by omega) (Nat.mul_one _) (gl)) rfl rfl rfl rfl ?_
          refine hk_on (qy_yd fun Y HY => y_ldr (HY.rd (i := 0) rfl) rfl rfl kflaw43_18 (gl)) rfl rfl rfl rfl ?_
          refine hk_on (qy_yd fun Y HY => y_sub rfl rfl rfl (wi (by omega))) rfl rfl rfl rfl ?_
          refine hk_on (qy_yd fun Y HY => y_gtr rfl rfl rfl) rfl rfl rfl rfl ?_
          refine hk_on (qy_yd fun Y HY => y_mov rfl rfl) rfl rfl rfl rfl ?_
          refine hk_splitd tv_all (d := 143) rfl (fun h41 => ?_) (fun h41 => ?_)
          · exfalso; omega
          ·skip
           refine hk_on (qy_yd fun Y HY => y_mov rfl rfl) rfl rfl rfl rfl ?_
           refine hk_on (qy_yd fun Y HY => y_mov rfl rfl) rfl rfl rfl rfl ?_
           refine hk_on (qy_yd fun Y HY => y_sub rfl rfl rfl (show _ = ((i - 1 : Nat) : Int) from (wi (by omega)).trans (by omega))) rfl rfl rfl rfl ?_
           refine hk_on (qy_yd fun Y HY => y_iar (HY.rd (i := 0) rfl) rfl rfl rfl kflaw43_17 (rfl) (by omega) (Nat.mul_one _) (gl)) rfl rfl rfl rfl ?_
           refine hk_on (qy_yd fun Y HY => y_ldr (HY.rd (i := 0) rfl) rfl rfl kflaw43_18 (gl)) rfl rfl rfl rfl ?_
           refine hk_on (qy_yd fun Y HY => y_mov rfl rfl) rfl rfl rfl rfl ?_
           refine hk_on (qy_yd fun Y HY => y_mov rfl rfl) rfl rfl rfl rfl ?_
           refine hk_on (qy_yd fun Y HY => y_iar (HY.rd (i := 0) rfl) rfl rfl rfl kflaw43_17 (rfl) (by omega) (Nat.mul_one _) (ga)) rfl rfl rfl rfl ?_
           refine hk_on (qy_yd fun Y HY => y_ldr (HY.rd (i := 0) rfl) rfl rfl kflaw43_18 (ga)) rfl rfl rfl rfl ?_
           refine hk_on (qy_yd fun Y HY => y_sub rfl rfl rfl (wi (by omega))) rfl rfl rfl rfl ?_
           refine hk_on (qy_yd fun Y HY => y_gtr rfl rfl rfl) rfl rfl rfl rfl ?_
           refine hk_on (qy_yd fun Y HY => y_pick rfl rfl rfl) rfl rfl rfl rfl ?_
           refine hk_y (fun Y HY => y_pick rfl rfl rfl) rfl rfl ?_
           refine hk_y (fun Y HY => y_mov rfl rfl) rfl rfl ?_
           refine hk_splitd tv_all (d := 157) rfl (fun h42 => ?_) (fun h42 => ?_)
           · exfalso; omega
           ·skip
            refine hk_on (qy_yd fun Y HY => y_mov rfl rfl) rfl rfl rfl rfl ?_
            refine hk_on (qy_yd fun Y HY => y_mov rfl rfl) rfl rfl rfl rfl ?_
            refine hk_on (qy_yd fun Y HY => y_geq rfl rfl rfl) rfl rfl rfl rfl ?_
            refine hk_on (qy_yd fun Y HY => y_mov rfl rfl) rfl rfl rfl rfl ?_
            refine hk_splitd tv_all (d := 161) rfl (fun h43 => ?_) (fun h43 => ?_)
            ·skip
             refine hk_on (qy_yd fun Y HY => y_mov rfl rfl) rfl rfl rfl rfl ?_
             refine hk_on (qy_yd fun Y HY => y_mov rfl rfl) rfl rfl rfl rfl ?_
             refine hk_on (qy_yd fun Y HY => y_iar (HY.rd (i := 0) rfl) rfl rfl rfl kflaw43_17 (rfl) (by omega) (Nat.mul_one _) (ga)) rfl rfl rfl rfl ?_
             refine hk_on (qy_yd fun Y HY => y_ldr (HY.rd (i := 0) rfl) rfl rfl kflaw43_18 (ga)) rfl rfl rfl rfl ?_
             refine hk_on (qy_yd fun Y HY => y_mov rfl rfl) rfl rfl rfl rfl ?_
             refine hk_on (qy_yd fun Y HY => y_mov rfl rfl) rfl rfl rfl rfl ?_
             refine hk_on (qy_yd fun Y HY => y_mov rfl rfl) rfl rfl rfl rfl ?_
             refine hk_on (qy_yd fun Y HY => y_sub rfl rfl rfl (show _ = ((i - a : Nat) : Int) from (wi (by omega)).trans (by omega))) rfl rfl rfl rfl ?_
             refine hk_on (qy_yd fun Y HY => y_iar (HY.rd (i := 0) rfl) rfl rfl rfl kflaw43_17 (rfl) (by omega) (Nat.mul_one _) (gu)) rfl rfl rfl rfl ?_
             refine hk_on (qy_yd fun Y HY => y_ldr (HY.rd (i := 0) rfl) rfl rfl kflaw43_18 (gu)) rfl rfl rfl rfl ?_
             refine hk_on (qy_yd fun Y HY => y_sub rfl rfl rfl (wi (by omega))) rfl rfl rfl rfl ?_
             refine hk_on (qy_yd fun Y HY => y_gtr rfl rfl rfl) rfl rfl rfl rfl ?_
             refine hk_on (qy_yd fun Y HY => y_mov rfl rfl) rfl rfl rfl rfl ?_
             refine hk_splitd tv_all (d := 174) rfl (fun h44 => ?_) (fun h44 => ?_)
             · exfalso; omega
             ·skip
              refine hk_on (qy_yd fun Y HY => y_mov rfl rfl) rfl rfl rfl rfl ?_
              refine hk_on (qy_yd fun Y HY => y_mov rfl rfl) rfl rfl rfl rfl ?_
              refine hk_on (qy_yd fun Y HY => y_mov rfl rfl) rfl rfl rfl rfl ?_
              refine hk_on (qy_yd fun Y HY => y_sub rfl rfl rfl (show _ = ((i - a : Nat) : Int) from (wi (by omega)).trans (by omega))) rfl rfl rfl rfl ?_
              refine hk_on (qy_yd fun Y HY => y_iar (HY.rd (i := 0) rfl) rfl rfl rfl kflaw43_17 (rfl) (by omega) (Nat.mul_one _) (gu)) rfl rfl rfl rfl ?_
              refine hk_on (qy_yd fun Y HY => y_ldr (HY.rd (i := 0) rfl) rfl rfl kflaw43_18 (gu)) rfl rfl rfl rfl ?_
              refine hk_on (qy_yd fun Y HY => y_mov rfl rfl) rfl rfl rfl rfl ?_
              refine hk_on (qy_yd fun Y HY => y_mov rfl rfl) rfl rfl rfl rfl ?_
              refine hk_on (qy_yd fun Y HY => y_iar (HY.rd (i := 0) rfl) rfl rfl rfl kflaw43_17 (rfl) (by omega) (Nat.mul_one _) (ga)) rfl rfl rfl rfl ?_
              refine hk_on (qy_yd fun Y HY => y_ldr (HY.rd (i := 0) rfl) rfl rfl kflaw43_18 (ga)) rfl rfl rfl rfl ?_
              refine hk_on (qy_yd fun Y HY => y_sub rfl rfl rfl (wi (by omega))) rfl rfl rfl rfl ?_
              refine hk_on (qy_yd fun Y HY => y_gtr rfl rfl rfl) rfl rfl rfl rfl ?_
              refine hk_on (qy_yd fun Y HY => y_pick rfl rfl rfl) rfl rfl rfl rfl ?_
              refine hk_on (qy_yd fun Y HY => y_pick rfl rfl rfl) rfl rfl rfl rfl ?_
              refine hk_y (fun Y HY => y_pick rfl rfl rfl) rfl rfl ?_
              refine hk_nil ?_
              intro w45 H46
              refine tv_nil ?_
              refine fn_next ?_
              refine cw_condd rfl (fun h47 => ?_) (fun h47 => ?_)
              · exfalso; omega
              ·skip
               refine cw_skip ?_
               refine fn_block ?_
               refine fn_next ?_
               refine cw_reg ?_
               refine ry (y_mov rfl rfl) rfl rfl ?_
               refine ry (y_add rfl rfl rfl (wi (by omega))) rfl rfl ?_
               refine ry (y_asg rfl rfl) rfl rfl ?_
               refine reg_nil ?_
               refine fn_roundJ ⟨i + 1, rfl, H46, by omega, rfl⟩ ⟨rfl, trivial⟩ (by omega) (by repeat (first | exact kp_refl | refine kp_app rfl rfl ?_ | refine kp_cons rfl ?_)) rfl
            ·skip
             refine hk_off rfl rfl rfl rfl rfl ?_
             refine hk_off rfl rfl rfl rfl rfl ?_
             refine hk_off rfl rfl rfl rfl rfl ?_
             refine hk_off rfl rfl rfl rfl rfl ?_
             refine hk_off rfl rfl rfl rfl rfl ?_
             refine hk_off rfl rfl rfl rfl rfl ?_
             refine hk_off rfl rfl rfl rfl rfl ?_
             refine hk_off rfl rfl rfl rfl rfl ?_
             refine hk_off rfl rfl rfl rfl rfl ?_
             refine hk_off rfl rfl rfl rfl rfl ?_
             refine hk_off rfl rfl rfl rfl rfl ?_
             refine hk_off rfl rfl rfl rfl rfl ?_
             refine hk_off rfl rfl rfl rfl rfl ?_
             refine hk_offu rfl rfl rfl rfl ?_
             refine hk_offu rfl rfl rfl rfl ?_
             refine hk_offu rfl rfl rfl rfl ?_
             refine hk_offu rfl rfl rfl rfl ?_
             refine hk_offu rfl rfl rfl rfl ?_
             refine hk_offu rfl rfl rfl rfl ?_
             refine hk_offu rfl rfl rfl rfl ?_
             refine hk_offu rfl rfl rfl rfl ?_
             refine hk_offu rfl rfl rfl rfl ?_
             refine hk_offu rfl rfl rfl rfl ?_
             refine hk_offu rfl rfl rfl rfl ?_
             refine hk_offu rfl rfl rfl rfl ?_
             refine hk_off rfl rfl rfl rfl rfl ?_
             refine hk_on (qy_yd fun Y HY => y_pick rfl rfl rfl) rfl rfl rfl rfl ?_
             refine hk_y (fun Y HY => y_pick rfl rfl rfl) rfl rfl ?_
             refine hk_nil ?_
             intro w48 H49
             refine tv_nil ?_
             refine fn_next ?_
             refine cw_condf rfl ?_
             refine cw_skip ?_
             refine fn_block ?_
             refine fn_next ?_
             refine cw_reg ?_
             refine ry (y_mov rfl rfl) rfl rfl ?_
             refine ry (y_add rfl rfl rfl (wi (by omega))) rfl rfl ?_
             refine ry (y_asg rfl rfl) rfl rfl ?_
             refine reg_nil ?_
             refine fn_roundJ ⟨i + 1, rfl, H49, by omega, rfl⟩ ⟨rfl, trivial⟩ (by omega) (by repeat (first | exact kp_refl | refine kp_app rfl rfl ?_ | refine kp_cons rfl ?_)) rfl
         ·skip
          refine hk_off rfl rfl rfl rfl rfl ?_
          refine hk_off rfl rfl rfl rfl rfl ?_
          refine hk_off rfl rfl rfl rfl rfl ?_
          refine hk_off rfl rfl rfl rfl rfl ?_
          refine hk_off rfl rfl rfl rfl rfl ?_
          refine hk_off rfl rfl rfl rfl rfl ?_
          refine hk_off rfl rfl rfl rfl rfl ?_
          refine hk_off rfl rfl rfl rfl rfl ?_
          refine hk_off rfl rfl rfl rfl rfl ?_
          refine hk_off rfl rfl rfl rfl rfl ?_
          refine hk_off rfl rfl rfl rfl rfl ?_
          refine hk_off rfl rfl rfl rfl rfl ?_
          refine hk_offu rfl rfl rfl rfl ?_
          refine hk_offu rfl rfl rfl rfl ?_
          refine hk_offu rfl rfl rfl rfl ?_
          refine hk_offu rfl rfl rfl rfl ?_
          refine hk_offu rfl rfl rfl rfl ?_
          refine hk_offu rfl rfl rfl rfl ?_
          refine hk_offu rfl rfl rfl rfl ?_
          refine hk_offu rfl rfl rfl rfl ?_
          refine hk_offu rfl rfl rfl rfl ?_
          refine hk_offu rfl rfl rfl rfl ?_
          refine hk_offu rfl rfl rfl rfl ?_
          refine hk_off rfl rfl rfl rfl rfl ?_
          refine hk_y (fun Y HY => y_pick rfl rfl rfl) rfl rfl ?_
          refine hk_y (fun Y HY => y_mov rfl rfl) rfl rfl ?_
          refine hk_on (qy_yd fun Y HY => y_mov rfl rfl) rfl rfl rfl rfl ?_
          refine hk_on (qy_yd fun Y HY => y_mov rfl rfl) rfl rfl rfl rfl ?_
          refine hk_on (qy_yd fun Y HY => y_geq rfl rfl rfl) rfl rfl rfl rfl ?_
          refine hk_on (qy_yd fun Y HY => y_mov rfl rfl) rfl rfl rfl rfl ?_
          refine hk_splitd tv_all (d := 161) rfl (fun h50 => ?_) (fun h50 => ?_)
          ·skip
           refine hk_on (qy_yd fun Y HY => y_mov rfl rfl) rfl rfl rfl rfl ?_
           refine hk_on (qy_yd fun Y HY => y_mov rfl rfl) rfl rfl rfl rfl ?_
           refine hk_on (qy_yd fun Y HY => y_iar (HY.rd (i := 0) rfl) rfl rfl rfl kflaw43_17 (rfl) (by omega) (Nat.mul_one _) (ga)) rfl rfl rfl rfl ?_
           refine hk_on (qy_yd fun Y HY => y_ldr (HY.rd (i := 0) rfl) rfl rfl kflaw43_18 (ga)) rfl rfl rfl rfl ?_
           refine hk_on (qy_yd fun Y HY => y_mov rfl rfl) rfl rfl rfl rfl ?_
           refine hk_on (qy_yd fun Y HY => y_mov rfl rfl) rfl rfl rfl rfl ?_
           refine hk_on (qy_yd fun Y HY => y_mov rfl rfl) rfl rfl rfl rfl ?_
           refine hk_on (qy_yd fun Y HY => y_sub rfl rfl rfl (show _ = ((i - a : Nat) : Int) from (wi (by omega)).trans (by omega))) rfl rfl rfl rfl ?_
           refine hk_on (qy_yd fun Y HY => y_iar (HY.rd (i := 0) rfl) rfl rfl rfl kflaw43_17 (rfl) (by omega) (Nat.mul_one _) (gu)) rfl rfl rfl rfl ?_
           refine hk_on (qy_yd fun Y HY => y_ldr (HY.rd (i := 0) rfl) rfl rfl kflaw43_18 (gu)) rfl rfl rfl rfl ?_
           refine hk_on (qy_yd fun Y HY => y_sub rfl rfl rfl (wi (by omega))) rfl rfl rfl rfl ?_
           refine hk_on (qy_yd fun Y HY => y_gtr rfl rfl rfl) rfl rfl rfl rfl ?_
           refine hk_on (qy_yd fun Y HY => y_mov rfl rfl) rfl rfl rfl rfl ?_
           refine hk_splitd tv_all (d := 174) rfl (fun h51 => ?_) (fun h51 => ?_)
           · exfalso; omega
           ·skip
            refine hk_on (qy_yd fun Y HY => y_mov rfl rfl) rfl rfl rfl rfl ?_
            refine hk_on (qy_yd fun Y HY => y_mov rfl rfl) rfl rfl rfl rfl ?_
            refine hk_on (qy_yd fun Y HY => y_mov rfl rfl) rfl rfl rfl rfl ?_
            refine hk_on (qy_yd fun Y HY => y_sub rfl rfl rfl (show _ = ((i - a : Nat) : Int) from (wi (by omega)).trans (by omega))) rfl rfl rfl rfl ?_
            refine hk_on (qy_yd fun Y HY => y_iar (HY.rd (i := 0) rfl) rfl rfl rfl kflaw43_17 (rfl) (by omega) (Nat.mul_one _) (gu)) rfl rfl rfl rfl ?_
            refine hk_on (qy_yd fun Y HY => y_ldr (HY.rd (i := 0) rfl) rfl rfl kflaw43_18 (gu)) rfl rfl rfl rfl ?_
            refine hk_on (qy_yd fun Y HY => y_mov rfl rfl) rfl rfl rfl rfl ?_
            refine hk_on (qy_yd fun Y HY => y_mov rfl rfl) rfl rfl rfl rfl ?_
            refine hk_on (qy_yd fun Y HY => y_iar (HY.rd (i := 0) rfl) rfl rfl rfl kflaw43_17 (rfl) (by omega) (Nat.mul_one _) (ga)) rfl rfl rfl rfl ?_
            refine hk_on (qy_yd fun Y HY => y_ldr (HY.rd (i := 0) rfl) rfl rfl kflaw43_18 (ga)) rfl rfl rfl rfl ?_
            refine hk_on (qy_yd fun Y HY => y_sub rfl rfl rfl (wi (by omega))) rfl rfl rfl rfl ?_
            refine hk_on (qy_yd fun Y HY => y_gtr rfl rfl rfl) rfl rfl rfl rfl ?_
            refine hk_on (qy_yd fun Y HY => y_pick rfl rfl rfl) rfl rfl rfl rfl ?_
            refine hk_on (qy_yd fun Y HY => y_pick rfl rfl rfl) rfl rfl rfl rfl ?_
            refine hk_y (fun Y HY => y_pick rfl rfl rfl) rfl rfl ?_
            refine hk_nil ?_
            intro w52 H53
            refine tv_nil ?_
            refine fn_next ?_
            refine cw_condd rfl (fun h54 => ?_) (fun h54 => ?_)
            · exfalso; omega
            ·skip
             refine cw_skip ?_
             refine fn_block ?_
             refine fn_next ?_
             refine cw_reg ?_
             refine ry (y_mov rfl rfl) rfl rfl ?_
             refine ry (y_add rfl rfl rfl (wi (by omega))) rfl rfl ?_
             refine ry (y_asg rfl rfl) rfl rfl ?_
             refine reg_nil ?_
             refine fn_roundJ ⟨i + 1, rfl, H53, by omega, rfl⟩ ⟨rfl, trivial⟩ (by omega) (by repeat (first | exact kp_refl | refine kp_app rfl rfl ?_ | refine kp_cons rfl ?_)) rfl
          ·skip
           refine hk_off rfl rfl rfl rfl rfl ?_
           refine hk_off rfl rfl rfl rfl rfl ?_
           refine hk_off rfl rfl rfl rfl rfl ?_
           refine hk_off rfl rfl rfl rfl rfl ?_
           refine hk_off rfl rfl rfl rfl rfl ?_
           refine hk_off rfl rfl rfl rfl rfl ?_
           refine hk_off rfl rfl rfl rfl rfl ?_
           refine hk_off rfl rfl rfl rfl rfl ?_
           refine hk_off rfl rfl rfl rfl rfl ?_
           refine hk_off rfl rfl rfl rfl rfl ?_
           refine hk_off rfl rfl rfl rfl rfl ?_
           refine hk_off rfl rfl rfl rfl rfl ?_
           refine hk_off rfl rfl rfl rfl rfl ?_
           refine hk_offu rfl rfl rfl rfl ?_
           refine hk_offu rfl rfl rfl rfl ?_
           refine hk_offu rfl rfl rfl rfl ?_
           refine hk_offu rfl rfl rfl rfl ?_
           refine hk_offu rfl rfl rfl rfl ?_
           refine hk_offu rfl rfl rfl rfl ?_
           refine hk_offu rfl rfl rfl rfl ?_
           refine hk_offu rfl rfl rfl rfl ?_
           refine hk_offu rfl rfl rfl rfl ?_
           refine hk_offu rfl rfl rfl rfl ?_
           refine hk_offu rfl rfl rfl rfl ?_
           refine hk_offu rfl rfl rfl rfl ?_
           refine hk_off rfl rfl rfl rfl rfl ?_
           refine hk_on (qy_yd fun Y HY => y_pick rfl rfl rfl) rfl rfl rfl rfl ?_
           refine hk_y (fun Y HY => y_pick rfl rfl rfl) rfl rfl ?_
           refine hk_nil ?_
           intro w55 H56
           refine tv_nil ?_
           refine fn_next ?_
           refine cw_condf rfl ?_
           refine cw_skip ?_
           refine fn_block ?_
           refine fn_next ?_
           refine cw_reg ?_
           refine ry (y_mov rfl rfl) rfl rfl ?_
           refine ry (y_add rfl rfl rfl (wi (by omega))) rfl rfl ?_
           refine ry (y_asg rfl rfl) rfl rfl ?_
           refine reg_nil ?_
           refine fn_roundJ ⟨i + 1, rfl, H56, by omega, rfl⟩ ⟨rfl, trivial⟩ (by omega) (by repeat (first | exact kp_refl | refine kp_app rfl rfl ?_ | refine kp_cons rfl ?_)) rfl
       ·skip
        refine hk_off rfl rfl rfl rfl rfl ?_
        refine hk_off rfl rfl rfl rfl rfl ?_
        refine hk_off rfl rfl rfl rfl rfl ?_
        refine hk_off rfl rfl rfl rfl rfl ?_
        refine hk_off rfl rfl rfl rfl rfl ?_
        refine hk_off rfl rfl rfl rfl rfl ?_
        refine hk_off rfl rfl rfl rfl rfl ?_
        refine hk_off rfl rfl rfl rfl rfl ?_
        refine hk_off rfl rfl rfl rfl rfl ?_
        refine hk_on (qy_yd fun Y HY => y_pick rfl rfl rfl) rfl rfl rfl rfl ?_
        refine hk_y (fun Y HY => y_pick rfl rfl rfl) rfl rfl ?_
        refine hk_y (fun Y HY => y_mov rfl rfl) rfl rfl ?_
        refine hk_on (qy_yd fun Y HY => y_mov rfl rfl) rfl rfl rfl rfl ?_
        refine hk_on (qy_yd fun Y HY => y_mov rfl rfl) rfl rfl rfl rfl ?_
        refine hk_on (qy_yd fun Y HY => y_iar (HY.rd (i := 0) rfl) rfl rfl rfl kflaw43_17 (rfl) (by omega) (Nat.mul_one _) (ga)) rfl rfl rfl rfl ?_
        refine hk_on (qy_yd fun Y HY => y_ldr (HY.rd (i := 0) rfl) rfl rfl kflaw43_18 (ga)) rfl rfl rfl rfl ?_
        refine hk_on (qy_yd fun Y HY => y_eql rfl rfl rfl) rfl rfl rfl rfl ?_
        refine hk_on (qy_yd fun Y HY => y_mov rfl rfl) rfl rfl rfl rfl ?_
        refine hk_on (qy_yd fun Y HY => y_mov rfl rfl) rfl rfl rfl rfl ?_
        refine hk_on (qy_yd fun Y HY => y_iar (hr.below HY.base) rfl rfl rfl kflaw43_17 (rfl) (by omega) (Nat.mul_one _) (gv)) rfl rfl rfl rfl ?_
        refine hk_on (qy_yd fun Y HY => y_ldr (hr.below HY.base) rfl rfl kflaw43_18 (gv)) rfl rfl rfl rfl ?_
        refine hk_on (qy_yd fun Y HY => y_mov rfl rfl) rfl rfl rfl rfl ?_
        refine hk_on (qy_yd fun Y HY => y_geq rfl rfl rfl) rfl rfl rfl rfl ?_
        refine hk_on (qy_yd fun Y HY => yv (bne_iff f3) (y_bneq rfl Try.underlying4 rfl rfl)) rfl rfl rfl rfl ?_
        refine hk_y (fun Y HY => y_pick rfl rfl rfl) rfl rfl ?_
        refine hk_nil ?_
        intro w57 H58
        refine tv_nil ?_
        refine fn_next ?_
        refine cw_condf rfl ?_
        refine cw_skip ?_
        refine fn_next ?_
        refine cw_seq ?_
        refine cw_draw H58 [0, 1, 2, 3, 4, 5, 6, 7, 8, 9, 10, 11, 12, 13, 14, 15, 16, 17, 18, 19, 20, 21, 22, 23, 24, 25, 26, 27, 28, 29, 30, 31, 32, 33, 34, 35, 36, 37, 38, 39, 40, 41, 42, 43, 44, 45, 46, 47, 48, 49, 50, 51, 52, 53, 54, 55, 56, 57, 58, 59, 60, 61, 62] [] (fun X HX => HX) (by kernel_rfl) (by kernel_rfl) (by rfl) ?_
        simp only [pick, List.getElem?_cons_succ, List.getElem?_cons_zero]
        refine hk_y (fun Y HY => y_mov rfl rfl) rfl rfl ?_
        refine hk_y (fun Y HY => y_mov rfl rfl) rfl rfl ?_
        refine hk_y (fun Y HY => y_rem rfl rfl rfl (by omega) (remN)) rfl rfl ?_
        refine hk_y (fun Y HY => y_gtr rfl rfl rfl) rfl rfl ?_
        refine hk_y (fun Y HY => y_mov rfl rfl) rfl rfl ?_
        refine hk_splitd tv_all (d := 131) rfl (fun h59 => ?_) (fun h59 => ?_)
        ·skip
         have hip := pos_of_mod (show 0 < i % a by omega)
         refine hk_on (qy_yd fun Y HY => y_mov rfl rfl) rfl rfl rfl rfl ?_
         refine hk_on (qy_yd fun Y HY => y_mov rfl rfl) rfl rfl rfl rfl ?_
         refine hk_on (qy_yd fun Y HY => y_iar (HY.rd (i := 0) rfl) rfl rfl rfl kflaw43_17 (rfl) (by omega) (Nat.mul_one _) (ga)) rfl rfl rfl rfl ?_
         refine hk_on (qy_yd fun Y HY => y_ldr (HY.rd (i := 0) rfl) rfl rfl kflaw43_18 (ga)) rfl rfl rfl rfl ?_
         refine hk_on (qy_yd fun Y HY => y_mov rfl rfl) rfl rfl rfl rfl ?_
         refine hk_on (qy_yd fun Y HY => y_mov rfl rfl) rfl rfl rfl rfl ?_
         refine hk_on (qy_yd fun Y HY => y_sub rfl rfl rfl (show _ = ((i - 1 : Nat) : Int) from (wi (by omega)).trans (by omega))) rfl rfl rfl rfl ?_
         refine hk_on (qy_yd fun Y HY => y_iar (HY.rd (i := 0) rfl) rfl rfl rfl kflaw43_17 (rfl) (by omega) (Nat.mul_one _) (gl)) rfl rfl rfl rfl ?_
         refine hk_on (qy_yd fun Y HY => y_ldr (HY.rd (i := 0) rfl) rfl rfl kflaw43_18 (gl)) rfl rfl rfl rfl ?_
         refine hk_on (qy_yd fun Y HY => y_sub rfl rfl rfl (wi (by omega))) rfl rfl rfl rfl ?_
         refine hk_on (qy_yd fun Y HY => y_gtr rfl rfl rfl) rfl rfl rfl rfl ?_
         refine hk_on (qy_yd fun Y HY => y_mov rfl rfl) rfl rfl rfl rfl ?_
         refine hk_splitd tv_all (d := 143) rfl (fun h60 => ?_) (fun h60 => ?_)
         · exfalso; omega
         ·skip
          refine hk_on (qy_yd fun Y HY => y_mov rfl rfl) rfl rfl rfl rfl ?_
          refine hk_on (qy_yd fun Y HY => y_mov rfl rfl) rfl rfl rfl rfl ?_
          refine hk_on (qy_yd fun Y HY => y_sub rfl rfl rfl (show _ = ((i - 1 : Nat) : Int) from (wi (by omega)).trans (by omega))) rfl rfl rfl rfl ?_
          refine hk_on (qy_yd fun Y HY => y_iar (HY.rd (i := 0) rfl) rfl rfl rfl kflaw43_17 (rfl) (by omega) (Nat.mul_one _) (gl)) rfl rfl rfl rfl ?_
          refine hk_on (qy_yd fun Y HY => y_ldr (HY.rd (i := 0) rfl) rfl rfl kflaw43_18 (gl)) rfl rfl rfl rfl ?_
          refine hk_on (qy_yd fun Y HY => y_mov rfl rfl) rfl rfl rfl rfl ?_
          refine hk_on (qy_yd fun Y HY => y_mov rfl rfl) rfl rfl rfl rfl ?_
          refine hk_on (qy_yd fun Y HY => y_iar (HY.rd (i := 0) rfl) rfl rfl rfl kflaw43_17 (rfl) (by omega) (Nat.mul_one _) (ga)) rfl rfl rfl rfl ?_
          refine hk_on (qy_yd fun Y HY => y_ldr (HY.rd (i := 0) rfl) rfl rfl kflaw43_18 (ga)) rfl rfl rfl rfl ?_
          refine hk_on (qy_yd fun Y HY => y_sub rfl rfl rfl (wi (by omega))) rfl rfl rfl rfl ?_
          refine hk_on (qy_yd fun Y HY => y_gtr rfl rfl rfl) rfl rfl rfl rfl ?_
          refine hk_on (qy_yd fun Y HY => y_pick rfl rfl rfl) rfl rfl rfl rfl ?_
          refine hk_y (fun Y HY => y_pick rfl rfl rfl) rfl rfl ?_
          refine hk_y (fun Y HY => y_mov rfl rfl) rfl rfl ?_
          refine hk_splitd tv_all (d := 157) rfl (fun h61 => ?_) (fun h61 => ?_)
          · exfalso; omega
          ·skip
           refine hk_on (qy_yd fun Y HY => y_mov rfl rfl) rfl rfl rfl rfl ?_
           refine hk_on (qy_yd fun Y HY => y_mov rfl rfl) rfl rfl rfl rfl ?_
           refine hk_on (qy_yd fun Y HY => y_geq rfl rfl rfl) rfl rfl rfl rfl ?_
           refine hk_on (qy_yd fun Y HY => y_mov rfl rfl) rfl rfl rfl rfl ?_
           refine hk_splitd tv_all (d := 161) rfl (fun h62 => ?_) (fun h62 => ?_)
           ·skip
            refine hk_on (qy_yd fun Y HY => y_mov rfl rfl) rfl rfl rfl rfl ?_
            refine hk_on (qy_yd fun Y HY => y_mov rfl rfl) rfl rfl rfl rfl ?_
            refine hk_on (qy_yd fun Y HY => y_iar (HY.rd (i := 0) rfl) rfl rfl rfl kflaw43_17 (rfl) (by omega) (Nat.mul_one _) (ga)) rfl rfl rfl rfl ?_
            refine hk_on (qy_yd fun Y HY => y_ldr (HY.rd (i := 0) rfl) rfl rfl kflaw43_18 (ga)) rfl rfl rfl rfl ?_
            refine hk_on (qy_yd fun Y HY => y_mov rfl rfl) rfl rfl rfl rfl ?_
            refine hk_on (qy_yd fun Y HY => y_mov rfl rfl) rfl rfl rfl rfl ?_
            refine hk_on (qy_yd fun Y HY => y_mov rfl rfl) rfl rfl rfl rfl ?_
            refine hk_on (qy_yd fun Y HY => y_sub rfl rfl rfl (show _ = ((i - a : Nat) : Int) from (wi (by omega)).trans (by omega))) rfl rfl rfl rfl ?_
            refine hk_on (qy_yd fun Y HY => y_iar (HY.rd (i := 0) rfl) rfl rfl rfl kflaw43_17 (rfl) (by omega) (Nat.mul_one _) (gu)) rfl rfl rfl rfl ?_
            refine hk_on (qy_yd fun Y HY => y_ldr (HY.rd (i := 0) rfl) rfl rfl kflaw43_18 (gu)) rfl rfl rfl rfl ?_
            refine hk_on (qy_yd fun Y HY => y_sub rfl rfl rfl (wi (by omega))) rfl rfl rfl rfl ?_
            refine hk_on (qy_yd fun Y HY => y_gtr rfl rfl rfl) rfl rfl rfl rfl ?_
            refine hk_on (qy_yd fun Y HY => y_mov rfl rfl) rfl rfl rfl rfl ?_
            refine hk_splitd tv_all (d := 174) rfl (fun h63 => ?_) (fun h63 => ?_)
            · exfalso; omega
            ·skip
             refine hk_on (qy_yd fun Y HY => y_mov rfl rfl) rfl rfl rfl rfl ?_
             refine hk_on (qy_yd fun Y HY => y_mov rfl rfl) rfl rfl rfl rfl ?_
             refine hk_on (qy_yd fun Y HY => y_mov rfl rfl) rfl rfl rfl rfl ?_
             refine hk_on (qy_yd fun Y HY => y_sub rfl rfl rfl (show _ = ((i - a : Nat) : Int) from (wi (by omega)).trans (by omega))) rfl rfl rfl rfl ?_
             refine hk_on (qy_yd fun Y HY => y_iar (HY.rd (i := 0) rfl) rfl rfl rfl kflaw43_17 (rfl) (by omega) (Nat.mul_one _) (gu)) rfl rfl rfl rfl ?_
             refine hk_on (qy_yd fun Y HY => y_ldr (HY.rd (i := 0) rfl) rfl rfl kflaw43_18 (gu)) rfl rfl rfl rfl ?_
             refine hk_on (qy_yd fun Y HY => y_mov rfl rfl) rfl rfl rfl rfl ?_
             refine hk_on (qy_yd fun Y HY => y_mov rfl rfl) rfl rfl rfl rfl ?_
             refine hk_on (qy_yd fun Y HY => y_iar (HY.rd (i := 0) rfl) rfl rfl rfl kflaw43_17 (rfl) (by omega) (Nat.mul_one _) (ga)) rfl rfl rfl rfl ?_
             refine hk_on (qy_yd fun Y HY => y_ldr (HY.rd (i := 0) rfl) rfl rfl kflaw43_18 (ga)) rfl rfl rfl rfl ?_
             refine hk_on (qy_yd fun Y HY => y_sub rfl rfl rfl (wi (by omega))) rfl rfl rfl rfl ?_
             refine hk_on (qy_yd fun Y HY => y_gtr rfl rfl rfl) rfl rfl rfl rfl ?_
             refine hk_on (qy_yd fun Y HY => y_pick rfl rfl rfl) rfl rfl rfl rfl ?_
             refine hk_on (qy_yd fun Y HY => y_pick rfl rfl rfl) rfl rfl rfl rfl ?_
             refine hk_y (fun Y HY => y_pick rfl rfl rfl) rfl rfl ?_
             refine hk_nil ?_
             intro w64 H65
             refine tv_nil ?_
             refine fn_next ?_
             refine cw_condd rfl (fun h66 => ?_) (fun h66 => ?_)
             · exfalso; omega
             ·skip
              refine cw_skip ?_
              refine fn_block ?_
              refine fn_next ?_
              refine cw_reg ?_
              refine ry (y_mov rfl rfl) rfl rfl ?_
              refine ry (y_add rfl rfl rfl (wi (by omega))) rfl rfl ?_
              refine ry (y_asg rfl rfl) rfl rfl ?_
              refine reg_nil ?_
              refine fn_roundJ ⟨i + 1, rfl, H65, by omega, rfl⟩ ⟨rfl, trivial⟩ (by omega) (by repeat (first | exact kp_refl | refine kp_app rfl rfl ?_ | refine kp_cons rfl ?_)) rfl
           ·skip
            refine hk_off rfl rfl rfl rfl rfl ?_
            refine hk_off rfl rfl rfl rfl rfl ?_
            refine hk_off rfl rfl rfl rfl rfl ?_
            refine hk_off rfl rfl rfl rfl rfl ?_
            refine hk_off rfl rfl rfl rfl rfl ?_
            refine hk_off rfl rfl rfl rfl rfl ?_
            refine hk_off rfl rfl rfl rfl rfl ?_
            refine hk_off rfl rfl rfl rfl rfl ?_
            refine hk_off rfl rfl rfl rfl rfl ?_
            refine hk_off rfl rfl rfl rfl rfl ?_
            refine hk_off rfl rfl rfl rfl rfl ?_
            refine hk_off rfl rfl rfl rfl rfl ?_
            refine hk_off rfl rfl rfl rfl rfl ?_
            refine hk_offu rfl rfl rfl rfl ?_
            refine hk_offu rfl rfl rfl rfl ?_
            refine hk_offu rfl rfl rfl rfl ?_
            refine hk_offu rfl rfl rfl rfl ?_
            refine hk_offu rfl rfl rfl rfl ?_
            refine hk_offu rfl rfl rfl rfl ?_
            refine hk_offu rfl rfl rfl rfl ?_
            refine hk_offu rfl rfl rfl rfl ?_
            refine hk_offu rfl rfl rfl rfl ?_
            refine hk_offu rfl rfl rfl rfl ?_
            refine hk_offu rfl rfl rfl rfl ?_
            refine hk_offu rfl rfl rfl rfl ?_
            refine hk_off rfl rfl rfl rfl rfl ?_
            refine hk_on (qy_yd fun Y HY => y_pick rfl rfl rfl) rfl rfl rfl rfl ?_
            refine hk_y (fun Y HY => y_pick rfl rfl rfl) rfl rfl ?_
            refine hk_nil ?_
            intro w67 H68
            refine tv_nil ?_
            refine fn_next ?_
            refine cw_condf rfl ?_
            refine cw_skip ?_
            refine fn_block ?_
            refine fn_next ?_
            refine cw_reg ?_
            refine ry (y_mov rfl rfl) rfl rfl ?_
            refine ry (y_add rfl rfl rfl (wi (by omega))) rfl rfl ?_
            refine ry (y_asg rfl rfl) rfl rfl ?_
            refine reg_nil ?_
            refine fn_roundJ ⟨i + 1, rfl, H68, by omega, rfl⟩ ⟨rfl, trivial⟩ (by omega) (by repeat (first | exact kp_refl | refine kp_app rfl rfl ?_ | refine kp_cons rfl ?_)) rfl
        ·skip
         refine hk_off rfl rfl rfl rfl rfl ?_
         refine hk_off rfl rfl rfl rfl rfl ?_
         refine hk_off rfl rfl rfl rfl rfl ?_
         refine hk_off rfl rfl rfl rfl rfl ?_
         refine hk_off rfl rfl rfl rfl rfl ?_
         refine hk_off rfl rfl rfl rfl rfl ?_
         refine hk_off rfl rfl rfl rfl rfl ?_
         refine hk_off rfl rfl rfl rfl rfl ?_
         refine hk_off rfl rfl rfl rfl rfl ?_
         refine hk_off rfl rfl rfl rfl rfl ?_
         refine hk_off rfl rfl rfl rfl rfl ?_
         refine hk_off rfl rfl rfl rfl rfl ?_
         refine hk_offu rfl rfl rfl rfl ?_
         refine hk_offu rfl rfl rfl rfl ?_
         refine hk_offu rfl rfl rfl rfl ?_
         refine hk_offu rfl rfl rfl rfl ?_
         refine hk_offu rfl rfl rfl rfl ?_
         refine hk_offu rfl rfl rfl rfl ?_
         refine hk_offu rfl rfl rfl rfl ?_
         refine hk_offu rfl rfl rfl rfl ?_
         refine hk_offu rfl rfl rfl rfl ?_
         refine hk_offu rfl rfl rfl rfl ?_
         refine hk_offu rfl rfl rfl rfl ?_
         refine hk_off rfl rfl rfl rfl rfl ?_
         refine hk_y (fun Y HY => y_pick rfl rfl rfl) rfl rfl ?_
         refine hk_y (fun Y HY => y_mov rfl rfl) rfl rfl ?_
         refine hk_on (qy_yd fun Y HY => y_mov rfl rfl) rfl rfl rfl rfl ?_
         refine hk_on (qy_yd fun Y HY => y_mov rfl rfl) rfl rfl rfl rfl ?_
         refine hk_on (qy_yd fun Y HY => y_geq rfl rfl rfl) rfl rfl rfl rfl ?_
         refine hk_on (qy_yd fun Y HY => y_mov rfl rfl) rfl rfl rfl rfl ?_
         refine hk_splitd tv_all (d := 161) rfl (fun h69 => ?_) (fun h69 => ?_)
         ·skip
          refine hk_on (qy_yd fun Y HY => y_mov rfl rfl) rfl rfl rfl rfl ?_
          refine hk_on (qy_yd fun Y HY => y_mov rfl rfl) rfl rfl rfl rfl ?_
          refine hk_on (qy_yd fun Y HY => y_iar (HY.rd (i := 0) rfl) rfl rfl rfl kflaw43_17 (rfl) (by omega) (Nat.mul_one _) (ga)) rfl rfl rfl rfl ?_
          refine hk_on (qy_yd fun Y HY => y_ldr (HY.rd (i := 0) rfl) rfl rfl kflaw43_18 (ga)) rfl rfl rfl rfl ?_
          refine hk_on (qy_yd fun Y HY => y_mov rfl rfl) rfl rfl rfl rfl ?_
          refine hk_on (qy_yd fun Y HY => y_mov rfl rfl) rfl rfl rfl rfl ?_
          refine hk_on (qy_yd fun Y HY => y_mov rfl rfl) rfl rfl rfl rfl ?_
          refine hk_on (qy_yd fun Y HY => y_sub rfl rfl rfl (show _ = ((i - a : Nat) : Int) from (wi (by omega)).trans (by omega))) rfl rfl rfl rfl ?_
          refine hk_on (qy_yd fun Y HY => y_iar (HY.rd (i := 0) rfl) rfl rfl rfl kflaw43_17 (rfl) (by omega) (Nat.mul_one _) (gu)) rfl rfl rfl rfl ?_
          refine hk_on (qy_yd fun Y HY => y_ldr (HY.rd (i := 0) rfl) rfl rfl kflaw43_18 (gu)) rfl rfl rfl rfl ?_
          refine hk_on (qy_yd fun Y HY => y_sub rfl rfl rfl (wi (by omega))) rfl rfl rfl rfl ?_
          refine hk_on (qy_yd fun Y HY => y_gtr rfl rfl rfl) rfl rfl rfl rfl ?_
          refine hk_on (qy_yd fun Y HY => y_mov rfl rfl) rfl rfl rfl rfl ?_
          refine hk_splitd tv_all (d := 174) rfl (fun h70 => ?_) (fun h70 => ?_)
          · exfalso; omega
          ·skip
           refine hk_on (qy_yd fun Y HY => y_mov rfl rfl) rfl rfl rfl rfl ?_
           refine hk_on (qy_yd fun Y HY => y_mov rfl rfl) rfl rfl rfl rfl ?_
           refine hk_on (qy_yd fun Y HY => y_mov rfl rfl) rfl rfl rfl rfl ?_
           refine hk_on (qy_yd fun Y HY => y_sub rfl rfl rfl (show _ = ((i - a : Nat) : Int) from (wi (by omega)).trans (by omega))) rfl rfl rfl rfl ?_
           refine hk_on (qy_yd fun Y HY => y_iar (HY.rd (i := 0) rfl) rfl rfl rfl kflaw43_17 (rfl) (by omega) (Nat.mul_one _) (gu)) rfl rfl rfl rfl ?_
           refine hk_on (qy_yd fun Y HY => y_ldr (HY.rd (i := 0) rfl) rfl rfl kflaw43_18 (gu)) rfl rfl rfl rfl ?_
           refine hk_on (qy_yd fun Y HY => y_mov rfl rfl) rfl rfl rfl rfl ?_
           refine hk_on (qy_yd fun Y HY => y_mov rfl rfl) rfl rfl rfl rfl ?_
           refine hk_on (qy_yd fun Y HY => y_iar (HY.rd (i := 0) rfl) rfl rfl rfl kflaw43_17 (rfl) (by omega) (Nat.mul_one _) (ga)) rfl rfl rfl rfl ?_
           refine hk_on (qy_yd fun Y HY => y_ldr (HY.rd (i := 0) rfl) rfl rfl kflaw43_18 (ga)) rfl rfl rfl rfl ?_
           refine hk_on (qy_yd fun Y HY => y_sub rfl rfl rfl (wi (by omega))) rfl rfl rfl rfl ?_
           refine hk_on (qy_yd fun Y HY => y_gtr rfl rfl rfl) rfl rfl rfl rfl ?_
           refine hk_on (qy_yd fun Y HY => y_pick rfl rfl rfl) rfl rfl rfl rfl ?_
           refine hk_on (qy_yd fun Y HY => y_pick rfl rfl rfl) rfl rfl rfl rfl ?_
           refine hk_y (fun Y HY => y_pick rfl rfl rfl) rfl rfl ?_
           refine hk_nil ?_
           intro w71 H72
           refine tv_nil ?_
           refine fn_next ?_
           refine cw_condd rfl (fun h73 => ?_) (fun h73 => ?_)
           · exfalso; omega
           ·skip
            refine cw_skip ?_
            refine fn_block ?_
            refine fn_next ?_
            refine cw_reg ?_
            refine ry (y_mov rfl rfl) rfl rfl ?_
            refine ry (y_add rfl rfl rfl (wi (by omega))) rfl rfl ?_
            refine ry (y_asg rfl rfl) rfl rfl ?_
            refine reg_nil ?_
            refine fn_roundJ ⟨i + 1, rfl, H72, by omega, rfl⟩ ⟨rfl, trivial⟩ (by omega) (by repeat (first | exact kp_refl | refine kp_app rfl rfl ?_ | refine kp_cons rfl ?_)) rfl
         ·skip
          refine hk_off rfl rfl rfl rfl rfl ?_
          refine hk_off rfl rfl rfl rfl rfl ?_
          refine hk_off rfl rfl rfl rfl rfl ?_
          refine hk_off rfl rfl rfl rfl rfl ?_
          refine hk_off rfl rfl rfl rfl rfl ?_
          refine hk_off rfl rfl rfl rfl rfl ?_
          refine hk_off rfl rfl rfl rfl rfl ?_
          refine hk_off rfl rfl rfl rfl rfl ?_
          refine hk_off rfl rfl rfl rfl rfl ?_
          refine hk_off rfl rfl rfl rfl rfl ?_
          refine hk_off rfl rfl rfl rfl rfl ?_
          refine hk_off rfl rfl rfl rfl rfl ?_
          refine hk_off rfl rfl rfl rfl rfl ?_
          refine hk_offu rfl rfl rfl rfl ?_
          refine hk_offu rfl rfl rfl rfl ?_
          refine hk_offu rfl rfl rfl rfl ?_
          refine hk_offu rfl rfl rfl rfl ?_
          refine hk_offu rfl rfl rfl rfl ?_
          refine hk_offu rfl rfl rfl rfl ?_
          refine hk_offu rfl rfl rfl rfl ?_
          refine hk_offu rfl rfl rfl rfl ?_
          refine hk_offu rfl rfl rfl rfl ?_
          refine hk_offu rfl rfl rfl rfl ?_
          refine hk_offu rfl rfl rfl rfl ?_
          refine hk_offu rfl rfl rfl rfl ?_
          refine hk_off rfl rfl rfl rfl rfl ?_
          refine hk_on (qy_yd fun Y HY => y_pick rfl rfl rfl) rfl rfl rfl rfl ?_
          refine hk_y (fun Y HY => y_pick rfl rfl rfl) rfl rfl ?_
          refine hk_nil ?_
          intro w74 H75
          refine tv_nil ?_
          refine fn_next ?_
          refine cw_condf rfl ?_
          refine cw_skip ?_
          refine fn_block ?_
          refine fn_next ?_
          refine cw_reg ?_
          refine ry (y_mov rfl rfl) rfl rfl ?_
          refine ry (y_add rfl rfl rfl (wi (by omega))) rfl rfl ?_
          refine ry (y_asg rfl rfl) rfl rfl ?_
          refine reg_nil ?_
          refine fn_roundJ ⟨i + 1, rfl, H75, by omega, rfl⟩ ⟨rfl, trivial⟩ (by omega) (by repeat (first | exact kp_refl | refine kp_app rfl rfl ?_ | refine kp_cons rfl ?_)) rfl
     ·skip
      refine hk_off rfl rfl rfl rfl rfl ?_
      refine hk_off rfl rfl rfl rfl rfl ?_
      refine hk_off rfl rfl rfl rfl rfl ?_
      refine hk_off rfl rfl rfl rfl rfl ?_
      refine hk_off rfl rfl rfl rfl rfl ?_
      refine hk_y (fun Y HY => y_pick rfl rfl rfl) rfl rfl ?_
      refine hk_y (fun Y HY => y_mov rfl rfl) rfl rfl ?_
      refine hk_on (qy_yd fun Y HY => y_mov rfl rfl) rfl rfl rfl rfl ?_
      refine hk_on (qy_yd fun Y HY => y_mov rfl rfl) rfl rfl rfl rfl ?_
      refine hk_on (qy_yd fun Y HY => y_iar (HY.rd (i := 1) rfl) rfl rfl rfl kflaw43_17 (rfl) (by omega) (Nat.mul_one _) (gb)) rfl rfl rfl rfl ?_
      refine hk_on (qy_yd fun Y HY => y_ldr (HY.rd (i := 1) rfl) rfl rfl kflaw43_18 (gb)) rfl rfl rfl rfl ?_
      refine hk_on (qy_yd fun Y HY => y_geq rfl rfl rfl) rfl rfl rfl rfl ?_
      refine hk_on (qy_yd fun Y HY => y_mov rfl rfl) rfl rfl rfl rfl ?_
      refine hk_splitd tv_all (d := 101) rfl (fun h76 => ?_) (fun h76 => ?_)
      ·skip
       refine hk_on (qy_yd fun Y HY => y_mov rfl rfl) rfl rfl rfl rfl ?_
       refine hk_on (qy_yd fun Y HY => y_mov rfl rfl) rfl rfl rfl rfl ?_
       refine hk_on (qy_yd fun Y HY => y_iar (HY.rd (i := 1) rfl) rfl rfl rfl kflaw43_17 (rfl) (by omega) (Nat.mul_one _) (gb)) rfl rfl rfl rfl ?_
       refine hk_on (qy_yd fun Y HY => y_ldr (HY.rd (i := 1) rfl) rfl rfl kflaw43_18 (gb)) rfl rfl rfl rfl ?_
       refine hk_on (qy_yd fun Y HY => y_mov rfl rfl) rfl rfl rfl rfl ?_
       refine hk_on (qy_yd fun Y HY => y_mov rfl rfl) rfl rfl rfl rfl ?_
       refine hk_on (qy_yd fun Y HY => y_iar (HY.rd (i := 0) rfl) rfl rfl rfl kflaw43_17 (rfl) (by omega) (Nat.mul_one _) (ga)) rfl rfl rfl rfl ?_
       refine hk_on (qy_yd fun Y HY => y_ldr (HY.rd (i := 0) rfl) rfl rfl kflaw43_18 (ga)) rfl rfl rfl rfl ?_
       refine hk_on (qy_yd fun Y HY => y_lss rfl rfl rfl) rfl rfl rfl rfl ?_
       refine hk_on (qy_yd fun Y HY => y_pick rfl rfl rfl) rfl rfl rfl rfl ?_
       refine hk_y (fun Y HY => y_pick rfl rfl rfl) rfl rfl ?_
       refine hk_y (fun Y HY => y_mov rfl rfl) rfl rfl ?_
       refine hk_splitd tv_all (d := 113) rfl (fun h77 => ?_) (fun h77 => ?_)
       · exfalso; omega
       ·skip
        refine hk_on (qy_yd fun Y HY => y_mov rfl rfl) rfl rfl rfl rfl ?_
        refine hk_on (qy_yd fun Y HY => y_mov rfl rfl) rfl rfl rfl rfl ?_
        refine hk_on (qy_yd fun Y HY => y_iar (HY.rd (i := 0) rfl) rfl rfl rfl kflaw43_17 (rfl) (by omega) (Nat.mul_one _) (ga)) rfl rfl rfl rfl ?_
        refine hk_on (qy_yd fun Y HY => y_ldr (HY.rd (i := 0) rfl) rfl rfl kflaw43_18 (ga)) rfl rfl rfl rfl ?_
        refine hk_on (qy_yd fun Y HY => y_eql rfl rfl rfl) rfl rfl rfl rfl ?_
        refine hk_on (qy_yd fun Y HY => y_mov rfl rfl) rfl rfl rfl rfl ?_
        refine hk_on (qy_yd fun Y HY => y_mov rfl rfl) rfl rfl rfl rfl ?_
        refine hk_on (qy_yd fun Y HY => y_iar (hr.below HY.base) rfl rfl rfl kflaw43_17 (rfl) (by omega) (Nat.mul_one _) (gv)) rfl rfl rfl rfl ?_
        refine hk_on (qy_yd fun Y HY => y_ldr (hr.below HY.base) rfl rfl kflaw43_18 (gv)) rfl rfl rfl rfl ?_
        refine hk_on (qy_yd fun Y HY => y_mov rfl rfl) rfl rfl rfl rfl ?_
        refine hk_on (qy_yd fun Y HY => y_geq rfl rfl rfl) rfl rfl rfl rfl ?_
        refine hk_on (qy_yd fun Y HY => yv (bne_iff f3) (y_bneq rfl Try.underlying4 rfl rfl)) rfl rfl rfl rfl ?_
        refine hk_y (fun Y HY => y_pick rfl rfl rfl) rfl rfl ?_
        refine hk_nil ?_
        intro w78 H79
        refine tv_nil ?_
        refine fn_next ?_
        refine cw_condf rfl ?_
        refine cw_skip ?_
        refine fn_next ?_
        refine cw_seq ?_
        refine cw_draw H79 [0, 1, 2, 3, 4, 5, 6, 7, 8, 9, 10, 11, 12, 13, 14, 15, 16, 17, 18, 19, 20, 21, 22, 23, 24, 25, 26, 27, 28, 29, 30, 31, 32, 33, 34, 35, 36, 37, 38, 39, 40, 41, 42, 43, 44, 45, 46, 47, 48, 49, 50, 51, 52, 53, 54, 55, 56, 57, 58, 59, 60, 61, 62] [] (fun X HX => HX) (by kernel_rfl) (by kernel_rfl) (by rfl) ?_
        simp only [pick, List.getElem?_cons_succ, List.getElem?_cons_zero]
        refine hk_y (fun Y HY => y_mov rfl rfl) rfl rfl ?_
        refine hk_y (fun Y HY => y_mov rfl rfl) rfl rfl ?_
        refine hk_y (fun Y HY => y_rem rfl rfl rfl (by omega) (remN)) rfl rfl ?_
        refine hk_y (fun Y HY => y_gtr rfl rfl rfl) rfl rfl ?_
        refine hk_y (fun Y HY => y_mov rfl rfl) rfl rfl ?_
        refine hk_splitd tv_all (d := 131) rfl (fun h80 => ?_) (fun h80 => ?_)
        ·skip
         have hip := pos_of_mod (show 0 < i % a by omega)
         refine hk_on (qy_yd fun Y HY => y_mov rfl rfl) rfl rfl rfl rfl ?_
         refine hk_on (qy_yd fun Y HY => y_mov rfl rfl) rfl rfl rfl rfl ?_
         refine hk_on (qy_yd fun Y HY => y_iar (HY.rd (i := 0) rfl) rfl rfl rfl kflaw43_17 (rfl) (by omega) (Nat.mul_one _) (ga)) rfl rfl rfl rfl ?_
         refine hk_on (qy_yd fun Y HY => y_ldr (HY.rd (i := 0) rfl) rfl rfl kflaw43_18 (ga)) rfl rfl rfl rfl ?_
         refine hk_on (qy_yd fun Y HY => y_mov rfl rfl) rfl rfl rfl rfl ?_
         refine hk_on (qy_yd fun Y HY => y_mov rfl rfl) rfl rfl rfl rfl ?_
         refine hk_on (qy_yd fun Y HY => y_sub rfl rfl rfl (show _ = ((i - 1 : Nat) : Int) from (wi (by omega)).trans (by omega))) rfl rfl rfl rfl ?_
         refine hk_on (qy_yd fun Y HY => y_iar (HY.rd (i := 0) rfl) rfl rfl rfl kflaw43_17 (rfl) (by omega) (Nat.mul_one _) (gl)) rfl rfl rfl rfl ?_
         refine hk_on (qy_yd fun Y HY => y_ldr (HY.rd (i := 0) rfl) rfl rfl kflaw43_18 (gl)) rfl rfl rfl rfl ?_
         refine hk_on (qy_yd fun Y HY => y_sub rfl rfl rfl (wi (by omega))) rfl rfl rfl rfl ?_
         refine hk_on (qy_yd fun Y HY => y_gtr rfl rfl rfl) rfl rfl rfl rfl ?_
         refine hk_on (qy_yd fun Y HY => y_mov rfl rfl) rfl rfl rfl rfl ?_
         refine hk_splitd tv_all (d := 143) rfl (fun h81 => ?_) (fun h81 => ?_)
         · exfalso; omega
         ·skip
          refine hk_on (qy_yd fun Y HY => y_mov rfl rfl) rfl rfl rfl rfl ?_
          refine hk_on (qy_yd fun Y HY => y_mov rfl rfl) rfl rfl rfl rfl ?_
          refine hk_on (qy_yd fun Y HY => y_sub rfl rfl rfl (show _ = ((i - 1 : Nat) : Int) from (wi (by omega)).trans (by omega))) rfl rfl rfl rfl ?_
          refine hk_on (qy_yd fun Y HY => y_iar (HY.rd (i := 0) rfl) rfl rfl rfl kflaw43_17 (rfl) (by omega) (Nat.mul_one _) (gl)) rfl rfl rfl rfl ?_
          refine hk_on (qy_yd fun Y HY => y_ldr (HY.rd (i := 0) rfl) rfl rfl kflaw43_18 (gl)) rfl rfl rfl rfl ?_
          refine hk_on (qy_yd fun Y HY => y_mov rfl rfl) rfl rfl rfl rfl ?_
          refine hk_on (qy_yd fun Y HY => y_mov rfl rfl) rfl rfl rfl rfl ?_
          refine hk_on (qy_yd fun Y HY => y_iar (HY.rd (i := 0) rfl) rfl rfl rfl kflaw43_17 (rfl) (by omega) (Nat.mul_one _) (ga)) rfl rfl rfl rfl ?_
          refine hk_on (qy_yd fun Y HY => y_ldr (HY.rd (i := 0) rfl) rfl rfl kflaw43_18 (ga)) rfl rfl rfl rfl ?_
          refine hk_on (qy_yd fun Y HY => y_sub rfl rfl rfl (wi (by omega))) rfl rfl rfl rfl ?_
          refine hk_on (qy_yd fun Y HY => y_gtr rfl rfl rfl) rfl rfl rfl rfl ?_
          refine hk_on (qy_yd fun Y HY => y_pick rfl rfl rfl) rfl rfl rfl rfl ?_
          refine hk_y (fun Y HY => y_pick rfl rfl rfl) rfl rfl ?_
          refine hk_y (fun Y HY => y_mov rfl rfl) rfl rfl ?_
          refine hk_splitd tv_all (d := 157) rfl (fun h82 => ?_) (fun h82 => ?_)
          · exfalso; omega
          ·skip
           refine hk_on (qy_yd fun Y HY => y_mov rfl rfl) rfl rfl rfl rfl ?_
           refine hk_on (qy_yd fun Y HY => y_mov rfl rfl) rfl rfl rfl rfl ?_
           refine hk_on (qy_yd fun Y HY => y_geq rfl rfl rfl) rfl rfl rfl rfl ?_
           refine hk_on (qy_yd fun Y HY => y_mov rfl rfl) rfl rfl rfl rfl ?_
           refine hk_splitd tv_all (d := 161) rfl (fun h83 => ?_) (fun h83 => ?_)
           ·skip
            refine hk_on (qy_yd fun Y HY => y_mov rfl rfl) rfl rfl rfl rfl ?_
            refine hk_on (qy_yd fun Y HY => y_mov rfl rfl) rfl rfl rfl rfl ?_
            refine hk_on (qy_yd fun Y HY => y_iar (HY.rd (i := 0) rfl) rfl rfl rfl kflaw43_17 (rfl) (by omega) (Nat.mul_one _) (ga)) rfl rfl rfl rfl ?_
            refine hk_on (qy_yd fun Y HY => y_ldr (HY.rd (i := 0) rfl) rfl rfl kflaw43_18 (ga)) rfl rfl rfl rfl ?_
            refine hk_on (qy_yd fun Y HY => y_mov rfl rfl) rfl rfl rfl rfl ?_
            refine hk_on (qy_yd fun Y HY => y_mov rfl rfl) rfl rfl rfl rfl ?_
            refine hk_on (qy_yd fun Y HY => y_mov rfl rfl) rfl rfl rfl rfl ?_
            refine hk_on (qy_yd fun Y HY => y_sub rfl rfl rfl (show _ = ((i - a : Nat) : Int) from (wi (by omega)).trans (by omega))) rfl rfl rfl rfl ?_
            refine hk_on (qy_yd fun Y HY => y_iar (HY.rd (i := 0) rfl) rfl rfl rfl kflaw43_17 (rfl) (by omega) (Nat.mul_one _) (gu)) rfl rfl rfl rfl ?_
            refine hk_on (qy_yd fun Y HY => y_ldr (HY.rd (i := 0) rfl) rfl rfl kflaw43_18 (gu)) rfl rfl rfl rfl ?_
            refine hk_on (qy_yd fun Y HY => y_sub rfl rfl rfl (wi (by omega))) rfl rfl rfl rfl ?_
            refine hk_on (qy_yd fun Y HY => y_gtr rfl rfl rfl) rfl rfl rfl rfl ?_
            refine hk_on (qy_yd fun Y HY => y_mov rfl rfl) rfl rfl rfl rfl ?_
            refine hk_splitd tv_all (d := 174) rfl (fun h84 => ?_) (fun h84 => ?_)
            · exfalso; omega
            ·skip
             refine hk_on (qy_yd fun Y HY => y_mov rfl rfl) rfl rfl rfl rfl ?_
             refine hk_on (qy_yd fun Y HY => y_mov rfl rfl) rfl rfl rfl rfl ?_
             refine hk_on (qy_yd fun Y HY => y_mov rfl rfl) rfl rfl rfl rfl ?_
             refine hk_on (qy_yd fun Y HY => y_sub rfl rfl rfl (show _ = ((i - a : Nat) : Int) from (wi (by omega)).trans (by omega))) rfl rfl rfl rfl ?_
             refine hk_on (qy_yd fun Y HY => y_iar (HY.rd (i := 0) rfl) rfl rfl rfl kflaw43_17 (rfl) (by omega) (Nat.mul_one _) (gu)) rfl rfl rfl rfl ?_
             refine hk_on (qy_yd fun Y HY => y_ldr (HY.rd (i := 0) rfl) rfl rfl kflaw43_18 (gu)) rfl rfl rfl rfl ?_
             refine hk_on (qy_yd fun Y HY => y_mov rfl rfl) rfl rfl rfl rfl ?_
             refine hk_on (qy_yd fun Y HY => y_mov rfl rfl) rfl rfl rfl rfl ?_
             refine hk_on (qy_yd fun Y HY => y_iar (HY.rd (i := 0) rfl) rfl rfl rfl kflaw43_17 (rfl) (by omega) (Nat.mul_one _) (ga)) rfl rfl rfl rfl ?_
             refine hk_on (qy_yd fun Y HY => y_ldr (HY.rd (i := 0) rfl) rfl rfl kflaw43_18 (ga)) rfl rfl rfl rfl ?_
             refine hk_on (qy_yd fun Y HY => y_sub rfl rfl rfl (wi (by omega))) rfl rfl rfl rfl ?_
             refine hk_on (qy_yd fun Y HY => y_gtr rfl rfl rfl) rfl rfl rfl rfl ?_
             refine hk_on (qy_yd fun Y HY => y_pick rfl rfl rfl) rfl rfl rfl rfl ?_
             refine hk_on (qy_yd fun Y HY => y_pick rfl rfl rfl) rfl rfl rfl rfl ?_
             refine hk_y (fun Y HY => y_pick rfl rfl rfl) rfl rfl ?_
             refine hk_nil ?_
             intro w85 H86
             refine tv_nil ?_
             refine fn_next ?_
             refine cw_condd rfl (fun h87 => ?_) (fun h87 => ?_)
             · exfalso; omega
             ·skip
              refine cw_skip ?_
              refine fn_block ?_
              refine fn_next ?_
              refine cw_reg ?_
              refine ry (y_mov rfl rfl) rfl rfl ?_
              refine ry (y_add rfl rfl rfl (wi (by omega))) rfl rfl ?_
              refine ry (y_asg rfl rfl) rfl rfl ?_
              refine reg_nil ?_
              refine fn_roundJ ⟨i + 1, rfl, H86, by omega, rfl⟩ ⟨rfl, trivial⟩ (by omega) (by repeat (first | exact kp_refl | refine kp_app rfl rfl ?_ | refine kp_cons rfl ?_)) rfl
           ·skip
            refine hk_off rfl rfl rfl rfl rfl ?_
            refine hk_off rfl rfl rfl rfl rfl ?_
            refine hk_off rfl rfl rfl rfl rfl ?_
            refine hk_off rfl rfl rfl rfl rfl ?_
            refine hk_off rfl rfl rfl rfl rfl ?_
            refine hk_off rfl rfl rfl rfl rfl ?_
            refine hk_off rfl rfl rfl rfl rfl ?_
            refine hk_off rfl rfl rfl rfl rfl ?_
            refine hk_off rfl rfl rfl rfl rfl ?_
            refine hk_off rfl rfl rfl rfl rfl ?_
            refine hk_off rfl rfl rfl rfl rfl ?_
            refine hk_off rfl rfl rfl rfl rfl ?_
            refine hk_off rfl rfl rfl rfl rfl ?_
            refine hk_offu rfl rfl rfl rfl ?_
            refine hk_offu rfl rfl rfl rfl ?_
            refine hk_offu rfl rfl rfl rfl ?_
            refine hk_offu rfl rfl rfl rfl ?_
            refine hk_offu rfl rfl rfl rfl ?_
            refine hk_offu rfl rfl rfl rfl ?_
            refine hk_offu rfl rfl rfl rfl ?_
            refine hk_offu rfl rfl rfl rfl ?_
            refine hk_offu rfl rfl rfl rfl ?_
            refine hk_offu rfl rfl rfl rfl ?_
            refine hk_offu rfl rfl rfl rfl ?_
            refine hk_offu rfl rfl rfl rfl ?_
            refine hk_off rfl rfl rfl rfl rfl ?_
            refine hk_on (qy_yd fun Y HY => y_pick rfl rfl rfl) rfl rfl rfl rfl ?_
            refine hk_y (fun Y HY => y_pick rfl rfl rfl) rfl rfl ?_
            refine hk_nil ?_
            intro w88 H89
            refine tv_nil ?_
            refine fn_next ?_
            refine cw_condf rfl ?_
            refine cw_skip ?_
            refine fn_block ?_
            refine fn_next ?_
            refine cw_reg ?_
            refine ry (y_mov rfl rfl) rfl rfl ?_
            refine ry (y_add rfl rfl rfl (wi (by omega))) rfl rfl ?_
            refine ry (y_asg rfl rfl) rfl rfl ?_
            refine reg_nil ?_
            refine fn_roundJ ⟨i + 1, rfl, H89, by omega, rfl⟩ ⟨rfl, trivial⟩ (by omega) (by repeat (first | exact kp_refl | refine kp_app rfl rfl ?_ | refine kp_cons rfl ?_)) rfl
        ·skip
         refine hk_off rfl rfl rfl rfl rfl ?_
         refine hk_off rfl rfl rfl rfl rfl ?_
         refine hk_off rfl rfl rfl rfl rfl ?_
         refine hk_off rfl rfl rfl rfl rfl ?_
         refine hk_off rfl rfl rfl rfl rfl ?_
         refine hk_off rfl rfl rfl rfl rfl ?_
         refine hk_off rfl rfl rfl rfl rfl ?_
         refine hk_off rfl rfl rfl rfl rfl ?_
         refine hk_off rfl rfl rfl rfl rfl ?_
         refine hk_off rfl rfl rfl rfl rfl ?_
         refine hk_off rfl rfl rfl rfl rfl ?_
         refine hk_off rfl rfl rfl rfl rfl ?_
         refine hk_offu rfl rfl rfl rfl ?_
         refine hk_offu rfl rfl rfl rfl ?_
         refine hk_offu rfl rfl rfl rfl ?_
         refine hk_offu rfl rfl rfl rfl ?_
         refine hk_offu rfl rfl rfl rfl ?_
         refine hk_offu rfl rfl rfl rfl ?_
         refine hk_offu rfl rfl rfl rfl ?_
         refine hk_offu rfl rfl rfl rfl ?_
         refine hk_offu rfl rfl rfl rfl ?_
         refine hk_offu rfl rfl rfl rfl ?_
         refine hk_offu rfl rfl rfl rfl ?_
         refine hk_off rfl rfl rfl rfl rfl ?_
         refine hk_y (fun Y HY => y_pick rfl rfl rfl) rfl rfl ?_
         refine hk_y (fun Y HY => y_mov rfl rfl) rfl rfl ?_
         refine hk_on (qy_yd fun Y HY => y_mov rfl rfl) rfl rfl rfl rfl ?_
         refine hk_on (qy_yd fun Y HY => y_mov rfl rfl) rfl rfl rfl rfl ?_
         refine hk_on (qy_yd fun Y HY => y_geq rfl rfl rfl) rfl rfl rfl rfl ?_
         refine hk_on (qy_yd fun Y HY => y_mov rfl rfl) rfl rfl rfl rfl ?_
         refine hk_splitd tv_all (d := 161) rfl (fun h90 => ?_) (fun h90 => ?_)
         ·skip
          refine hk_on (qy_yd fun Y HY => y_mov rfl rfl) rfl rfl rfl rfl ?_
          refine hk_on (qy_yd fun Y HY => y_mov rfl rfl) rfl rfl rfl rfl ?_
          refine hk_on (qy_yd fun Y HY => y_iar (HY.rd (i := 0) rfl) rfl rfl rfl kflaw43_17 (rfl) (by omega) (Nat.mul_one _) (ga)) rfl rfl rfl rfl ?_
          refine hk_on (qy_yd fun Y HY => y_ldr (HY.rd (i := 0) rfl) rfl rfl kflaw43_18 (ga)) rfl rfl rfl rfl ?_
          refine hk_on (qy_yd fun Y HY => y_mov rfl rfl) rfl rfl rfl rfl ?_
          refine hk_on (qy_yd fun Y HY => y_mov rfl rfl) rfl rfl rfl rfl ?_
          refine hk_on (qy_yd fun Y HY => y_mov rfl rfl) rfl rfl rfl rfl ?_
          refine hk_on (qy_yd fun Y HY => y_sub rfl rfl rfl (show _ = ((i - a : Nat) : Int) from (wi (by omega)).trans (by omega))) rfl rfl rfl rfl ?_
          refine hk_on (qy_yd fun Y HY => y_iar (HY.rd (i := 0) rfl) rfl rfl rfl kflaw43_17 (rfl) (by omega) (Nat.mul_one _) (gu)) rfl rfl rfl rfl ?_
          refine hk_on (qy_yd fun Y HY => y_ldr (HY.rd (i := 0) rfl) rfl rfl kflaw43_18 (gu)) rfl rfl rfl rfl ?_
          refine hk_on (qy_yd fun Y HY => y_sub rfl rfl rfl (wi (by omega))) rfl rfl rfl rfl ?_
          refine hk_on (qy_yd fun Y HY => y_gtr rfl rfl rfl) rfl rfl rfl rfl ?_
          refine hk_on (qy_yd fun Y HY => y_mov rfl rfl) rfl rfl rfl rfl ?_
          refine hk_splitd tv_all (d := 174) rfl (fun h91 => ?_) (fun h91 => ?_)
          · exfalso; omega
          ·skip
           refine hk_on (qy_yd fun Y HY => y_mov rfl rfl) rfl rfl rfl rfl ?_
           refine hk_on (qy_yd fun Y HY => y_mov rfl rfl) rfl rfl rfl rfl ?_
           refine hk_on (qy_yd fun Y HY => y_mov rfl rfl) rfl rfl rfl rfl ?_
           refine hk_on (qy_yd fun Y HY => y_sub rfl rfl rfl (show _ = ((i - a : Nat) : Int) from (wi (by omega)).trans (by omega))) rfl rfl rfl rfl ?_
           refine hk_on (qy_yd fun Y HY => y_iar (HY.rd (i := 0) rfl) rfl rfl rfl kflaw43_17 (rfl) (by omega) (Nat.mul_one _) (gu)) rfl rfl rfl rfl ?_
           refine hk_on (qy_yd fun Y HY => y_ldr (HY.rd (i := 0) rfl) rfl rfl kflaw43_18 (gu)) rfl rfl rfl rfl ?_
           refine hk_on (qy_yd fun Y HY => y_mov rfl rfl) rfl rfl rfl rfl ?_
           refine hk_on (qy_yd fun Y HY => y_mov rfl rfl) rfl rfl rfl rfl ?_
           refine hk_on (qy_yd fun Y HY => y_iar (HY.rd (i := 0) rfl) rfl rfl rfl kflaw43_17 (rfl) (by omega) (Nat.mul_one _) (ga)) rfl rfl rfl rfl ?_
           refine hk_on (qy_yd fun Y HY => y_ldr (HY.rd (i := 0) rfl) rfl rfl kflaw43_18 (ga)) rfl rfl rfl rfl ?_
           refine hk_on (qy_yd fun Y HY => y_sub rfl rfl rfl (wi (by omega))) rfl rfl rfl rfl ?_
           refine hk_on (qy_yd fun Y HY => y_gtr rfl rfl rfl) rfl rfl rfl rfl ?_
           refine hk_on (qy_yd fun Y HY => y_pick rfl rfl rfl) rfl rfl rfl rfl ?_
           refine hk_on (qy_yd fun Y HY => y_pick rfl rfl rfl) rfl rfl rfl rfl ?_
           refine hk_y (fun Y HY => y_pick rfl rfl rfl) rfl rfl ?_
           refine hk_nil ?_
           intro w92 H93
           refine tv_nil ?_
           refine fn_next ?_
           refine cw_condd rfl (fun h94 => ?_) (fun h94 => ?_)
           · exfalso; omega
           ·skip
            refine cw_skip ?_
            refine fn_block ?_
            refine fn_next ?_
            refine cw_reg ?_
            refine ry (y_mov rfl rfl) rfl rfl ?_
            refine ry (y_add rfl rfl rfl (wi (by omega))) rfl rfl ?_
            refine ry (y_asg rfl rfl) rfl rfl ?_
            refine reg_nil ?_
            refine fn_roundJ ⟨i + 1, rfl, H93, by omega, rfl⟩ ⟨rfl, trivial⟩ (by omega) (by repeat (first | exact kp_refl | refine kp_app rfl rfl ?_ | refine kp_cons rfl ?_)) rfl
         ·skip
          refine hk_off rfl rfl rfl rfl rfl ?_
          refine hk_off rfl rfl rfl rfl rfl ?_
          refine hk_off rfl rfl rfl rfl rfl ?_
          refine hk_off rfl rfl rfl rfl rfl ?_
          refine hk_off rfl rfl rfl rfl rfl ?_
          refine hk_off rfl rfl rfl rfl rfl ?_
          refine hk_off rfl rfl rfl rfl rfl ?_
          refine hk_off rfl rfl rfl rfl rfl ?_
          refine hk_off rfl rfl rfl rfl rfl ?_
          refine hk_off rfl rfl rfl rfl rfl ?_
          refine hk_off rfl rfl rfl rfl rfl ?_
          refine hk_off rfl rfl rfl rfl rfl ?_
          refine hk_off rfl rfl rfl rfl rfl ?_
          refine hk_offu rfl rfl rfl rfl ?_
          refine hk_offu rfl rfl rfl rfl ?_
          refine hk_offu rfl rfl rfl rfl ?_
          refine hk_offu rfl rfl rfl rfl ?_
          refine hk_offu rfl rfl rfl rfl ?_
          refine hk_offu rfl rfl rfl rfl ?_
          refine hk_offu rfl rfl rfl rfl ?_
          refine hk_offu rfl rfl rfl rfl ?_
          refine hk_offu rfl rfl rfl rfl ?_
          refine hk_offu rfl rfl rfl rfl ?_
          refine hk_offu rfl rfl rfl rfl ?_
          refine hk_offu rfl rfl rfl rfl ?_
          refine hk_off rfl rfl rfl rfl rfl ?_
          refine hk_on (qy_yd fun Y HY => y_pick rfl rfl rfl) rfl rfl rfl rfl ?_
          refine hk_y (fun Y HY => y_pick rfl rfl rfl) rfl rfl ?_
          refine hk_nil ?_
          intro w95 H96
          refine tv_nil ?_
          refine fn_next ?_
          refine cw_condf rfl ?_
          refine cw_skip ?_
          refine fn_block ?_
          refine fn_next ?_
          refine cw_reg ?_
          refine ry (y_mov rfl rfl) rfl rfl ?_
          refine ry (y_add rfl rfl rfl (wi (by omega))) rfl rfl ?_
          refine ry (y_asg rfl rfl) rfl rfl ?_
          refine reg_nil ?_
          refine fn_roundJ ⟨i + 1, rfl, H96, by omega, rfl⟩ ⟨rfl, trivial⟩ (by omega) (by repeat (first | exact kp_refl | refine kp_app rfl rfl ?_ | refine kp_cons rfl ?_)) rfl
      ·skip
       refine hk_off rfl rfl rfl rfl rfl ?_
       refine hk_off rfl rfl rfl rfl rfl ?_
       refine hk_off rfl rfl rfl rfl rfl ?_
       refine hk_off rfl rfl rfl rfl rfl ?_
       refine hk_off rfl rfl rfl rfl rfl ?_
       refine hk_off rfl rfl rfl rfl rfl ?_
       refine hk_off rfl rfl rfl rfl rfl ?_
       refine hk_off rfl rfl rfl rfl rfl ?_
       refine hk_off rfl rfl rfl rfl rfl ?_
       refine hk_on (qy_yd fun Y HY => y_pick rfl rfl rfl) rfl rfl rfl rfl ?_
       refine hk_y (fun Y HY => y_pick rfl rfl rfl) rfl rfl ?_
       refine hk_y (fun Y HY => y_mov rfl rfl) rfl rfl ?_
       refine hk_on (qy_yd fun Y HY => y_mov rfl rfl) rfl rfl rfl rfl ?_
       refine hk_on (qy_yd fun Y HY => y_mov rfl rfl) rfl rfl rfl rfl ?_
       refine hk_on (qy_yd fun Y HY => y_iar (HY.rd (i := 0) rfl) rfl rfl rfl kflaw43_17 (rfl) (by omega) (Nat.mul_one _) (ga)) rfl rfl rfl rfl ?_
       refine hk_on (qy_yd fun Y HY => y_ldr (HY.rd (i := 0) rfl) rfl rfl kflaw43_18 (ga)) rfl rfl rfl rfl ?_
       refine hk_on (qy_yd fun Y HY => y_eql rfl rfl rfl) rfl rfl rfl rfl ?_
       refine hk_on (qy_yd fun Y HY => y_mov rfl rfl) rfl rfl rfl rfl ?_
       refine hk_on (qy_yd fun Y HY => y_mov rfl rfl) rfl rfl rfl rfl ?_
       refine hk_on (qy_yd fun Y HY => y_iar (hr.below HY.base) rfl rfl rfl kflaw43_17 (rfl) (by omega) (Nat.mul_one _) (gv)) rfl rfl rfl rfl ?_
       refine hk_on (qy_yd fun Y HY => y_ldr (hr.below HY.base) rfl rfl kflaw43_18 (gv)) rfl rfl rfl rfl ?_
       refine hk_on (qy_yd fun Y HY => y_mov rfl rfl) rfl rfl rfl rfl ?_
       refine hk_on (qy_yd fun Y HY => y_geq rfl rfl rfl) rfl rfl rfl rfl ?_
       refine hk_on (qy_yd fun Y HY => yv (bne_iff f3) (y_bneq rfl Try.underlying4 rfl rfl)) rfl rfl rfl rfl ?_
       refine hk_y (fun Y HY => y_pick rfl rfl rfl) rfl rfl ?_
       refine hk_nil ?_
       intro w97 H98
       refine tv_nil ?_
       refine fn_next ?_
       refine cw_condf rfl ?_
       refine cw_skip ?_
       refine fn_next ?_
       refine cw_seq ?_
       refine cw_draw H98 [0, 1, 2, 3, 4, 5, 6, 7, 8, 9, 10, 11, 12, 13, 14, 15, 16, 17, 18, 19, 20, 21, 22, 23, 24, 25, 26, 27, 28, 29, 30, 31, 32, 33, 34, 35, 36, 37, 38, 39, 40, 41, 42, 43, 44, 45, 46, 47, 48, 49, 50, 51, 52, 53, 54, 55, 56, 57, 58, 59, 60, 61, 62] [] (fun X HX => HX) (by kernel_rfl) (by kernel_rfl) (by rfl) ?_
       simp only [pick, List.getElem?_cons_succ, List.getElem?_cons_zero]
       refine hk_y (fun Y HY => y_mov rfl rfl) rfl rfl ?_
       refine hk_y (fun Y HY => y_mov rfl rfl) rfl rfl ?_
       refine hk_y (fun Y HY => y_rem rfl rfl rfl (by omega) (remN)) rfl rfl ?_
       refine hk_y (fun Y HY => y_gtr rfl rfl rfl) rfl rfl ?_
       refine hk_y (fun Y HY => y_mov rfl rfl) rfl rfl ?_
       refine hk_splitd tv_all (d := 131) rfl (fun h99 => ?_) (fun h99 => ?_)
       ·skip
        have hip := pos_of_mod (show 0 < i % a by omega)
        refine hk_on (qy_yd fun Y HY => y_mov rfl rfl) rfl rfl rfl rfl ?_
        refine hk_on (qy_yd fun Y HY => y_mov rfl rfl) rfl rfl rfl rfl ?_
        refine hk_on (qy_yd fun Y HY => y_iar (HY.rd (i := 0) rfl) rfl rfl rfl kflaw43_17 (rfl) (by omega) (Nat.mul_one _) (ga)) rfl rfl rfl rfl ?_
        refine hk_on (qy_yd fun Y HY => y_ldr (HY.rd (i := 0) rfl) rfl rfl kflaw43_18 (ga)) rfl rfl rfl rfl ?_
        refine hk_on (qy_yd fun Y HY => y_mov rfl rfl) rfl rfl rfl rfl ?_
        refine hk_on (qy_yd fun Y HY => y_mov rfl rfl) rfl rfl rfl rfl ?_
        refine hk_on (qy_yd fun Y HY => y_sub rfl rfl rfl (show _ = ((i - 1 : Nat) : Int) from (wi (by omega)).trans (by omega))) rfl rfl rfl rfl ?_
        refine hk_on (qy_yd fun Y HY => y_iar (HY.rd (i := 0) rfl) rfl rfl rfl kflaw43_17 (rfl) (by omega) (Nat.mul_one _) (gl)) rfl rfl rfl rfl ?_
        refine hk_on (qy_yd fun Y HY => y_ldr (HY.rd (i := 0) rfl) rfl rfl kflaw43_18 (gl)) rfl rfl rfl rfl ?_
        refine hk_on (qy_yd fun Y HY => y_sub rfl rfl rfl (wi (by omega))) rfl rfl rfl rfl ?_
        refine hk_on (qy_yd fun Y HY => y_gtr rfl rfl rfl) rfl rfl rfl rfl ?_
        refine hk_on (qy_yd fun Y HY => y_mov rfl rfl) rfl rfl rfl rfl ?_
        refine hk_splitd tv_all (d := 143) rfl (fun h100 => ?_) (fun h100 => ?_)
        · exfalso; omega
        ·skip
         refine hk_on (qy_yd fun Y HY => y_mov rfl rfl) rfl rfl rfl rfl ?_
         refine hk_on (qy_yd fun Y HY => y_mov rfl rfl) rfl rfl rfl rfl ?_
         refine hk_on (qy_yd fun Y HY => y_sub rfl rfl rfl (show _ = ((i - 1 : Nat) : Int) from (wi (by omega)).trans (by omega))) rfl rfl rfl rfl ?_
         refine hk_on (qy_yd fun Y HY => y_iar (HY.rd (i := 0) rfl) rfl rfl rfl kflaw43_17 (rfl) (by omega) (Nat.mul_one _) (gl)) rfl rfl rfl rfl ?_
         refine hk_on (qy_yd fun Y HY => y_ldr (HY.rd (i := 0) rfl) rfl rfl kflaw43_18 (gl)) rfl rfl rfl rfl ?_
         refine hk_on (qy_yd fun Y HY => y_mov rfl rfl) rfl rfl rfl rfl ?_
         refine hk_on (qy_yd fun Y HY => y_mov rfl rfl) rfl rfl rfl rfl ?_
         refine hk_on (qy_yd fun Y HY => y_iar (HY.rd (i := 0) rfl) rfl rfl rfl kflaw43_17 (rfl) (by omega) (Nat.mul_one _) (ga)) rfl rfl rfl rfl ?_
         refine hk_on (qy_yd fun Y HY => y_ldr (HY.rd (i := 0) rfl) rfl rfl kflaw43_18 (ga)) rfl rfl rfl rfl ?_
         refine hk_on (qy_yd fun Y HY => y_sub rfl rfl rfl (wi (by omega))) rfl rfl rfl rfl ?_
         refine hk_on (qy_yd fun Y HY => y_gtr rfl rfl rfl) rfl rfl rfl rfl ?_
         refine hk_on (qy_yd fun Y HY => y_pick rfl rfl rfl) rfl rfl rfl rfl ?_
         refine hk_y (fun Y HY => y_pick rfl rfl rfl) rfl rfl ?_
         refine hk_y (fun Y HY => y_mov rfl rfl) rfl rfl ?_
         refine hk_splitd tv_all (d := 157) rfl (fun h101 => ?_) (fun h101 => ?_)
         · exfalso; omega
         ·skip
          refine hk_on (qy_yd fun Y HY => y_mov rfl rfl) rfl rfl rfl rfl ?_
          refine hk_on (qy_yd fun Y HY => y_mov rfl rfl) rfl rfl rfl rfl ?_
          refine hk_on (qy_yd fun Y HY => y_geq rfl rfl rfl) rfl rfl rfl rfl ?_
          refine hk_on (qy_yd fun Y HY => y_mov rfl rfl) rfl rfl rfl rfl ?_
          refine hk_splitd tv_all (d := 161) rfl (fun h102 => ?_) (fun h102 => ?_)
          ·skip
           refine hk_on (qy_yd fun Y HY => y_mov rfl rfl) rfl rfl rfl rfl ?_
           refine hk_on (qy_yd fun Y HY => y_mov rfl rfl) rfl rfl rfl rfl ?_
           refine hk_on (qy_yd fun Y HY => y_iar (HY.rd (i := 0) rfl) rfl rfl rfl kflaw43_17 (rfl) (by omega) (Nat.mul_one _) (ga)) rfl rfl rfl rfl ?_
           refine hk_on (qy_yd fun Y HY => y_ldr (HY.rd (i := 0) rfl) rfl rfl kflaw43_18 (ga)) rfl rfl rfl rfl ?_
           refine hk_on (qy_yd fun Y HY => y_mov rfl rfl) rfl rfl rfl rfl ?_
           refine hk_on (qy_yd fun Y HY => y_mov rfl rfl) rfl rfl rfl rfl ?_
           refine hk_on (qy_yd fun Y HY => y_mov rfl rfl) rfl rfl rfl rfl ?_
           refine hk_on (qy_yd fun Y HY => y_sub rfl rfl rfl (show _ = ((i - a : Nat) : Int) from (wi (by omega)).trans (by omega))) rfl rfl rfl rfl ?_
           refine hk_on (qy_yd fun Y HY => y_iar (HY.rd (i := 0) rfl) rfl rfl rfl kflaw43_17 (rfl) (by omega) (Nat.mul_one _) (gu)) rfl rfl rfl rfl ?_
           refine hk_on (qy_yd fun Y HY => y_ldr (HY.rd (i := 0) rfl) rfl rfl kflaw43_18 (gu)) rfl rfl rfl rfl ?_
           refine hk_on (qy_yd fun Y HY => y_sub rfl rfl rfl (wi (by omega))) rfl rfl rfl rfl ?_
           refine hk_on (qy_yd fun Y HY => y_gtr rfl rfl rfl) rfl rfl rfl rfl ?_
           refine hk_on (qy_yd fun Y HY => y_mov rfl rfl) rfl rfl rfl rfl ?_
           refine hk_splitd tv_all (d := 174) rfl (fun h103 => ?_) (fun h103 => ?_)
           · exfalso; omega
           ·skip
            refine hk_on (qy_yd fun Y HY => y_mov rfl rfl) rfl rfl rfl rfl ?_
            refine hk_on (qy_yd fun Y HY => y_mov rfl rfl) rfl rfl rfl rfl ?_
            refine hk_on (qy_yd fun Y HY => y_mov rfl rfl) rfl rfl rfl rfl ?_
            refine hk_on (qy_yd fun Y HY => y_sub rfl rfl rfl (show _ = ((i - a : Nat) : Int) from (wi (by omega)).trans (by omega))) rfl rfl rfl rfl ?_
            refine hk_on (qy_yd fun Y HY => y_iar (HY.rd (i := 0) rfl) rfl rfl rfl kflaw43_17 (rfl) (by omega) (Nat.mul_one _) (gu)) rfl rfl rfl rfl ?_
            refine hk_on (qy_yd fun Y HY => y_ldr (HY.rd (i := 0) rfl) rfl rfl kflaw43_18 (gu)) rfl rfl rfl rfl ?_
            refine hk_on (qy_yd fun Y HY => y_mov rfl rfl) rfl rfl rfl rfl ?_
            refine hk_on (qy_yd fun Y HY => y_mov rfl rfl) rfl rfl rfl rfl ?_
            refine hk_on (qy_yd fun Y HY => y_iar (HY.rd (i := 0) rfl) rfl rfl rfl kflaw43_17 (rfl) (by omega) (Nat.mul_one _) (ga)) rfl rfl rfl rfl ?_
            refine hk_on (qy_yd fun Y HY => y_ldr (HY.rd (i := 0) rfl) rfl rfl kflaw43_18 (ga)) rfl rfl rfl rfl ?_
            refine hk_on (qy_yd fun Y HY => y_sub rfl rfl rfl (wi (by omega))) rfl rfl rfl rfl ?_
            refine hk_on (qy_yd fun Y HY => y_gtr rfl rfl rfl) rfl rfl rfl rfl ?_
            refine hk_on (qy_yd fun Y HY => y_pick rfl rfl rfl) rfl rfl rfl rfl ?_
            refine hk_on (qy_yd fun Y HY => y_pick rfl rfl rfl) rfl rfl rfl rfl ?_
            refine hk_y (fun Y HY => y_pick rfl rfl rfl) rfl rfl ?_
            refine hk_nil ?_
            intro w104 H105
            refine tv_nil ?_
            refine fn_next ?_
            refine cw_condd rfl (fun h106 => ?_) (fun h106 => ?_)
            · exfalso; omega
            ·skip
             refine cw_skip ?_
             refine fn_block ?_
             refine fn_next ?_
             refine cw_reg ?_
             refine ry (y_mov rfl rfl) rfl rfl ?_
             refine ry (y_add rfl rfl rfl (wi (by omega))) rfl rfl ?_
             refine ry (y_asg rfl rfl) rfl rfl ?_
             refine reg_nil ?_
             refine fn_roundJ ⟨i + 1, rfl, H105, by omega, rfl⟩ ⟨rfl, trivial⟩ (by omega) (by repeat (first | exact kp_refl | refine kp_app rfl rfl ?_ | refine kp_cons rfl ?_)) rfl
          ·skip
           refine hk_off rfl rfl rfl rfl rfl ?_
           refine hk_off rfl rfl rfl rfl rfl ?_
           refine hk_off rfl rfl rfl rfl rfl ?_
           refine hk_off rfl rfl rfl rfl rfl ?_
           refine hk_off rfl rfl rfl rfl rfl ?_
           refine hk_off rfl rfl rfl rfl rfl ?_
           refine hk_off rfl rfl rfl rfl rfl ?_
           refine hk_off rfl rfl rfl rfl rfl ?_
           refine hk_off rfl rfl rfl rfl rfl ?_
           refine hk_off rfl rfl rfl rfl rfl ?_
           refine hk_off rfl rfl rfl rfl rfl ?_
           refine hk_off rfl rfl rfl rfl rfl ?_
           refine hk_off rfl rfl rfl rfl rfl ?_
           refine hk_offu rfl rfl rfl rfl ?_
           refine hk_offu rfl rfl rfl rfl ?_
           refine hk_offu rfl rfl rfl rfl ?_
           refine hk_offu rfl rfl rfl rfl ?_
           refine hk_offu rfl rfl rfl rfl ?_
           refine hk_offu rfl rfl rfl rfl ?_
           refine hk_offu rfl rfl rfl rfl ?_
           refine hk_offu rfl rfl rfl rfl ?_
           refine hk_offu rfl rfl rfl rfl ?_
           refine hk_offu rfl rfl rfl rfl ?_
           refine hk_offu rfl rfl rfl rfl ?_
           refine hk_offu rfl rfl rfl rfl ?_
           refine hk_off rfl rfl rfl rfl rfl ?_
           refine hk_on (qy_yd fun Y HY => y_pick rfl rfl rfl) rfl rfl rfl rfl ?_
           refine hk_y (fun Y HY => y_pick rfl rfl rfl) rfl rfl ?_
           refine hk_nil ?_
           intro w107 H108
           refine tv_nil ?_
           refine fn_next ?_
           refine cw_condf rfl ?_
           refine cw_skip ?_
           refine fn_block ?_
           refine fn_next ?_
           refine cw_reg ?_
           refine ry (y_mov rfl rfl) rfl rfl ?_
           refine ry (y_add rfl rfl rfl (wi (by omega))) rfl rfl ?_
           refine ry (y_asg rfl rfl) rfl rfl ?_
           refine reg_nil ?_
           refine fn_roundJ ⟨i + 1, rfl, H108, by omega, rfl⟩ ⟨rfl, trivial⟩ (by omega) (by repeat (first | exact kp_refl | refine kp_app rfl rfl ?_ | refine kp_cons rfl ?_)) rfl
       ·skip
        refine hk_off rfl rfl rfl rfl rfl ?_
        refine hk_off rfl rfl rfl rfl rfl ?_
        refine hk_off rfl rfl rfl rfl rfl ?_
        refine hk_off rfl rfl rfl rfl rfl ?_
        refine hk_off rfl rfl rfl rfl rfl ?_
        refine hk_off rfl rfl rfl rfl rfl ?_
        refine hk_off rfl rfl rfl rfl rfl ?_
        refine hk_off rfl rfl rfl rfl rfl ?_
        refine hk_off rfl rfl rfl rfl rfl ?_
        refine hk_off rfl rfl rfl rfl rfl ?_
        refine hk_off rfl rfl rfl rfl rfl ?_
        refine hk_off rfl rfl rfl rfl rfl ?_
        refine hk_offu rfl rfl rfl rfl ?_
        refine hk_offu rfl rfl rfl rfl ?_
        refine hk_offu rfl rfl rfl rfl ?_
        refine hk_offu rfl rfl rfl rfl ?_
        refine hk_offu rfl rfl rfl rfl ?_
        refine hk_offu rfl rfl rfl rfl ?_
        refine hk_offu rfl rfl rfl rfl ?_
        refine hk_offu rfl rfl rfl rfl ?_
        refine hk_offu rfl rfl rfl rfl ?_
        refine hk_offu rfl rfl rfl rfl ?_
        refine hk_offu rfl rfl rfl rfl ?_
        refine hk_off rfl rfl rfl rfl rfl ?_
        refine hk_y (fun Y HY => y_pick rfl rfl rfl) rfl rfl ?_
        refine hk_y (fun Y HY => y_mov rfl rfl) rfl rfl ?_
        refine hk_on (qy_yd fun Y HY => y_mov rfl rfl) rfl rfl rfl rfl ?_
        refine hk_on (qy_yd fun Y HY => y_mov rfl rfl) rfl rfl rfl rfl ?_
        refine hk_on (qy_yd fun Y HY => y_geq rfl rfl rfl) rfl rfl rfl rfl ?_
        refine hk_on (qy_yd fun Y HY => y_mov rfl rfl) rfl rfl rfl rfl ?_
        refine hk_splitd tv_all (d := 161) rfl (fun h109 => ?_) (fun h109 => ?_)
        ·skip
         refine hk_on (qy_yd fun Y HY => y_mov rfl rfl) rfl rfl rfl rfl ?_
         refine hk_on (qy_yd fun Y HY => y_mov rfl rfl) rfl rfl rfl rfl ?_
         refine hk_on (qy_yd fun Y HY => y_iar (HY.rd (i := 0) rfl) rfl rfl rfl kflaw43_17 (rfl) (by omega) (Nat.mul_one _) (ga)) rfl rfl rfl rfl ?_
         refine hk_on (qy_yd fun Y HY => y_ldr (HY.rd (i := 0) rfl) rfl rfl kflaw43_18 (ga)) rfl rfl rfl rfl ?_
         refine hk_on (qy_yd fun Y HY => y_mov rfl rfl) rfl rfl rfl rfl ?_
         refine hk_on (qy_yd fun Y HY => y_mov rfl rfl) rfl rfl rfl rfl ?_
         refine hk_on (qy_yd fun Y HY => y_mov rfl rfl) rfl rfl rfl rfl ?_
         refine hk_on (qy_yd fun Y HY => y_sub rfl rfl rfl (show _ = ((i - a : Nat) : Int) from (wi (by omega)).trans (by omega))) rfl rfl rfl rfl ?_
         refine hk_on (qy_yd fun Y HY => y_iar (HY.rd (i := 0) rfl) rfl rfl rfl kflaw43_17 (rfl) (by omega) (Nat.mul_one _) (gu)) rfl rfl rfl rfl ?_
         refine hk_on (qy_yd fun Y HY => y_ldr (HY.rd (i := 0) rfl) rfl rfl kflaw43_18 (gu)) rfl rfl rfl rfl ?_
         refine hk_on (qy_yd fun Y HY => y_sub rfl rfl rfl (wi (by omega))) rfl rfl rfl rfl ?_
         refine hk_on (qy_yd fun Y HY => y_gtr rfl rfl rfl) rfl rfl rfl rfl ?_
         refine hk_on (qy_yd fun Y HY => y_mov rfl rfl) rfl rfl rfl rfl ?_
         refine hk_splitd tv_all (d := 174) rfl (fun h110 => ?_) (fun h110 => ?_)
         · exfalso; omega
         ·skip
          refine hk_on (qy_yd fun Y HY => y_mov rfl rfl) rfl rfl rfl rfl ?_
          refine hk_on (qy_yd fun Y HY => y_mov rfl rfl) rfl rfl rfl rfl ?_
          refine hk_on (qy_yd fun Y HY => y_mov rfl rfl) rfl rfl rfl rfl ?_
          refine hk_on (qy_yd fun Y HY => y_sub rfl rfl rfl (show _ = ((i - a : Nat) : Int) from (wi (by omega)).trans (by omega))) rfl rfl rfl rfl ?_
          refine hk_on (qy_yd fun Y HY => y_iar (HY.rd (i := 0) rfl) rfl rfl rfl kflaw43_17 (rfl) (by omega) (Nat.mul_one _) (gu)) rfl rfl rfl rfl ?_
          refine hk_on (qy_yd fun Y HY => y_ldr (HY.rd (i := 0) rfl) rfl rfl kflaw43_18 (gu)) rfl rfl rfl rfl ?_
          refine hk_on (qy_yd fun Y HY => y_mov rfl rfl) rfl rfl rfl rfl ?_
          refine hk_on (qy_yd fun Y HY => y_mov rfl rfl) rfl rfl rfl rfl ?_
          refine hk_on (qy_yd fun Y HY => y_iar (HY.rd (i := 0) rfl) rfl rfl rfl kflaw43_17 (rfl) (by omega) (Nat.mul_one _) (ga)) rfl rfl rfl rfl ?_
          refine hk_on (qy_yd fun Y HY => y_ldr (HY.rd (i := 0) rfl) rfl rfl kflaw43_18 (ga)) rfl rfl rfl rfl ?_
          refine hk_on (qy_yd fun Y HY => y_sub rfl rfl rfl (wi (by omega))) rfl rfl rfl rfl ?_
          refine hk_on (qy_yd fun Y HY => y_gtr rfl rfl rfl) rfl rfl rfl rfl ?_
          refine hk_on (qy_yd fun Y HY => y_pick rfl rfl rfl) rfl rfl rfl rfl ?_
          refine hk_on (qy_yd fun Y HY => y_pick rfl rfl rfl) rfl rfl rfl rfl ?_
          refine hk_y (fun Y HY => y_pick rfl rfl rfl) rfl rfl ?_
          refine hk_nil ?_
          intro w111 H112
          refine tv_nil ?_
          refine fn_next ?_
          refine cw_condd rfl (fun h113 => ?_) (fun h113 => ?_)
          · exfalso; omega
          ·skip
           refine cw_skip ?_
           refine fn_block ?_
           refine fn_next ?_
           refine cw_reg ?_
           refine ry (y_mov rfl rfl) rfl rfl ?_
           refine ry (y_add rfl rfl rfl (wi (by omega))) rfl rfl ?_
           refine ry (y_asg rfl rfl) rfl rfl ?_
           refine reg_nil ?_
           refine fn_roundJ ⟨i + 1, rfl, H112, by omega, rfl⟩ ⟨rfl, trivial⟩ (by omega) (by repeat (first | exact kp_refl | refine kp_app rfl rfl ?_ | refine kp_cons rfl ?_)) rfl
        ·skip
         refine hk_off rfl rfl rfl rfl rfl ?_
         refine hk_off rfl rfl rfl rfl rfl ?_
         refine hk_off rfl rfl rfl rfl rfl ?_
         refine hk_off rfl rfl rfl rfl rfl ?_
         refine hk_off rfl rfl rfl rfl rfl ?_
         refine hk_off rfl rfl rfl rfl rfl ?_
         refine hk_off rfl rfl rfl rfl rfl ?_
         refine hk_off rfl rfl rfl rfl rfl ?_
         refine hk_off rfl rfl rfl rfl rfl ?_
         refine hk_off rfl rfl rfl rfl rfl ?_
         refine hk_off rfl rfl rfl rfl rfl ?_
         refine hk_off rfl rfl rfl rfl rfl ?_
         refine hk_off rfl rfl rfl rfl rfl ?_
         refine hk_offu rfl rfl rfl rfl ?_
         refine hk_offu rfl rfl rfl rfl ?_
         refine hk_offu rfl rfl rfl rfl ?_
         refine hk_offu rfl rfl rfl rfl ?_
         refine hk_offu rfl rfl rfl rfl ?_
         refine hk_offu rfl rfl rfl rfl ?_
         refine hk_offu rfl rfl rfl rfl ?_
         refine hk_offu rfl rfl rfl rfl ?_
         refine hk_offu rfl rfl rfl rfl ?_
         refine hk_offu rfl rfl rfl rfl ?_
         refine hk_offu rfl rfl rfl rfl ?_
         refine hk_offu rfl rfl rfl rfl ?_
         refine hk_off rfl rfl rfl rfl rfl ?_
         refine hk_on (qy_yd fun Y HY => y_pick rfl rfl rfl) rfl rfl rfl rfl ?_
         refine hk_y (fun Y HY => y_pick rfl rfl rfl) rfl rfl ?_
         refine hk_nil ?_
         intro w114 H115
         refine tv_nil ?_
         refine fn_next ?_
         refine cw_condf rfl ?_
         refine cw_skip ?_
         refine fn_block ?_
         refine fn_next ?_
         refine cw_reg ?_
         refine ry (y_mov rfl rfl) rfl rfl ?_
         refine ry (y_add rfl rfl rfl (wi (by omega))) rfl rfl ?_
         refine ry (y_asg rfl rfl) rfl rfl ?_
         refine reg_nil ?_
         refine fn_roundJ ⟨i + 1, rfl, H115, by omega, rfl⟩ ⟨rfl, trivial⟩ (by omega) (by repeat (first | exact kp_refl | refine kp_app rfl rfl ?_ | refine kp_cons rfl ?_)) rfl
    ·skip
     refine cw_exit ?_
     refine fn_then_exit (fn_then_exit (fn_block_exit ?_))
     refine fn_next ?_
     refine cw_seq ?_
     refine cw_reg ?_
     refine ry (y_asg rfl rfl) rfl rfl ?_
     refine reg_nil ?_
     refine fn_next ?_
     refine cw_ret ?_
     refine fn_ret1 rfl rfl ?_
     exact ⟨rfl, H31.base⟩

theorem distSteps_all (a h : Int) (L : List Int) (A : Option Addr) (n cap : Nat) (t u : Int) (w : World) (ha : I6 a) (hh : I6 h) (hr : Rd w A (vi .i64 L)) (hl : L.length = n) : Ret Try.prog 3 [.int .i64 a, .int .i64 h, .slice A n cap, .int .i64 t, .int .i64 u] w (fun z w' => z = .bool true ∧ Below w.heap.size w w') := by
  by_cases hp : LandP a h (1000 : Nat) L
  · obtain ⟨a, h, rfl, rfl, h1, h2, h3, h4, h5, h6, h7⟩ := LandP.nat hp
    obtain rfl : n = a * h := by omega
    exact distSteps_ok a h L A cap t u w h1 h2 h3 h4 h5 hr hl h7
  · exact distSteps_no a h L A n cap t u w ha hh hr hl hp

theorem distSteps_law (a : Int) (h : Int) (zs : List Int) (A2 : Option Addr) (n2 c2 : Nat) (t : Int) (u : Int) (W : World) (ba : I6 a) (bh : I6 h) (hzs : Ints .i64 W A2 n2 zs) (le2 : n2 ≤ c2) (mx2 : c2 ≤ maxLen) (wzs : ∀ z ∈ zs, I6 z) (bt : I6 t) (bu : I6 u) :
    Calls Try.prog 3 #[.int .i64 a, .int .i64 h, .slice A2 n2 c2, .int .i64 t, .int .i64 u] W fun e w' => e = .returned (.bool true) ∧ Below W.heap.size W w' := lawOf (distSteps_all a h zs A2 n2 c2 t u W ba bh (Rd.of_ints hzs) hzs.len)

set_option maxRecDepth 100000 in
theorem distNearest_no (a h : Int) (L : List Int) (A : Option Addr) (n cap : Nat) (cx cy t : Int) (w : World) (ha : I6 a) (hh : I6 h) (hr : Rd w A (vi .i64 L)) (hl : L.length = n) (hp : ¬ LandP a h (1000 : Nat) L) :
    Ret Try.prog 5 [.int .i64 a, .int .i64 h, .slice A n cap, .agg #[.int .i64 cx, .int .i64 cy], .int .i64 t] w (fun z w' => z = .bool true ∧ Below w.heap.size w w') := by
 refine ret_enter Try.func5 rfl rfl rfl ?_
 have H0 := HS.start w
 refine cw_seq ?_
 refine cw_reg ?_
 refine reg_op (op_box (cs := [.int _ _, .int _ _]) H0 rfl rfl rfl) rfl rfl ?_
 rintro _ w2 ⟨b1, rfl, H3⟩
 refine ry (y_asg rfl rfl) rfl rfl ?_
 refine reg_nil ?_
 refine fn_next ?_
 refine cw_seq ?_
 refine cw_seq ?_
 refine cw_reg ?_
 refine reg_op (op_call (distAwake _) rfl kflaw43_5 trivial) rfl rfl ?_
 rintro _ w5 ⟨rfl, e4⟩
 have H6 := H3.ext e4
 refine ry (y_not rfl rfl) rfl rfl ?_
 refine reg_nil ?_
 refine fn_next ?_
 refine cw_condf rfl ?_
 refine cw_skip ?_
 refine fn_next ?_
 refine cw_seq ?_
 refine cw_reg ?_
 refine ry (y_mov rfl rfl) rfl rfl ?_
 refine ry (y_mov rfl rfl) rfl rfl ?_
 refine ry (y_mov rfl rfl) rfl rfl ?_
 refine reg_op (op_call (land_any a h 1000 L A n cap _ ha hh (by decide) (hr.below H6.base) hl) rfl kflaw43_13 ⟨rfl, rfl, rfl, rfl, trivial⟩) rfl rfl ?_
 rintro _ w8 ⟨rfl, e7⟩
 have H9 := H6.ext e7
 refine ry (y_mov rfl rfl) rfl rfl ?_
 refine ry (y_ext rfl rfl rfl) rfl rfl ?_
 refine ry (y_ext rfl rfl rfl) rfl rfl ?_
 refine reg_op (op_alloc H9 rfl kflaw43_14) rfl rfl ?_
 rintro _ w11 ⟨b10, rfl, H12⟩
 refine reg_op (op_st (i := 0) (vs := [.int _ _, .int _ _, .slice _ _ _]) H12 rfl rfl rfl rfl rfl kflaw43_15 rfl rfl rfl) rfl rfl ?_
 rintro _ w13 H14
 refine ry (y_asg rfl rfl) rfl rfl ?_
 refine reg_nil ?_
 refine fn_next ?_
 refine cw_seq ?_
 refine cw_seq ?_
 refine cw_reg ?_
 refine ry (y_mov rfl rfl) rfl rfl ?_
 refine ry (y_notd rfl rfl) rfl rfl ?_
 refine reg_nil ?_
 refine fn_next ?_
 refine cw_condd rfl (fun h15 => ?_) (fun h15 => ?_)
 ·skip
  refine cw_seq ?_
  refine cw_reg ?_
  refine ry (y_asg rfl rfl) rfl rfl ?_
  refine reg_nil ?_
  refine fn_next ?_
  refine cw_ret ?_
  refine fn_then_ret ?_
  refine fn_ret1 rfl rfl ?_
  exact ⟨rfl, H14.base⟩
 · exact absurd (Classical.not_not.1 h15) hp

set_option maxRecDepth 100000 in
theorem distNearest_out (a h : Nat) (L : List Int) (A : Option Addr) (cap : Nat) (cx cy t : Int) (w : World) (h1 : 1 ≤ a) (h2 : a ≤ 1000) (h3 : 1 ≤ h) (h4 : h ≤ 1000) (h5 : a * h ≤ 1000) (hr : Rd w A (vi .i64 L)) (hl : L.length = a * h) (hb : AllB L) (hw : ¬ withinC cx cy cx cy a h = 0) :
    Ret Try.prog 5 [.int .i64 (a : Int), .int .i64 (h : Int), .slice A (a * h) cap, .agg #[.int .i64 cx, .int .i64 cy], .int .i64 t] w (fun z w' => z = .bool true ∧ Below w.heap.size w w') := by
 have s : SzG a h := ⟨h1, by omega, h3, by omega⟩
 refine ret_enter Try.func5 rfl rfl rfl ?_
 have H0 := HS.start w
 refine cw_seq ?_
 refine cw_reg ?_
 refine reg_op (op_box (cs := [.int _ _, .int _ _]) H0 rfl rfl rfl) rfl rfl ?_
 rintro _ w2 ⟨b1, rfl, H3⟩
 refine ry (y_asg rfl rfl) rfl rfl ?_
 refine reg_nil ?_
 refine fn_next ?_
 refine cw_seq ?_
 refine cw_seq ?_
 refine cw_reg ?_
 refine reg_op (op_call (distAwake _) rfl kflaw43_5 trivial) rfl rfl ?_
 rintro _ w5 ⟨rfl, e4⟩
 have H6 := H3.ext e4
 refine ry (y_not rfl rfl) rfl rfl ?_
 refine reg_nil ?_
 refine fn_next ?_
 refine cw_condf rfl ?_
 refine cw_skip ?_
 refine fn_next ?_
 refine cw_seq ?_
 refine cw_reg ?_
 refine ry (y_mov rfl rfl) rfl rfl ?_
 refine ry (y_mov rfl rfl) rfl rfl ?_
 refine ry (y_mov rfl rfl) rfl rfl ?_
 refine reg_op (op_call (land_ok a h 1000 L A (a * h) cap _ h1 h2 h3 h4 h5 rfl hl hb (by decide) (hr.below H6.base)) rfl kflaw43_13 ⟨rfl, rfl, rfl, rfl, trivial⟩) rfl rfl ?_
 rintro _ w8 ⟨rfl, e7⟩
 have H9 := H6.ext e7
 refine ry (y_mov rfl rfl) rfl rfl ?_
 refine ry (y_ext rfl rfl rfl) rfl rfl ?_
 refine ry (y_ext rfl rfl rfl) rfl rfl ?_
 refine reg_op (op_alloc H9 rfl kflaw43_14) rfl rfl ?_
 rintro _ w11 ⟨b10, rfl, H12⟩
 refine reg_op (op_st (i := 0) (vs := [.int _ _, .int _ _, .slice _ _ _]) H12 rfl rfl rfl rfl rfl kflaw43_15 rfl rfl rfl) rfl rfl ?_
 rintro _ w13 H14
 refine ry (y_asg rfl rfl) rfl rfl ?_
 refine reg_nil ?_
 refine fn_next ?_
 refine cw_seq ?_
 refine cw_seq ?_
 refine cw_reg ?_
 refine ry (y_mov rfl rfl) rfl rfl ?_
 refine ry (y_not rfl rfl) rfl rfl ?_
 refine reg_nil ?_
 refine fn_next ?_
 refine cw_condf rfl ?_
 refine cw_skip ?_
 refine fn_next ?_
 refine cw_seq ?_
 refine cw_reg ?_
 refine ry (y_mov rfl rfl) rfl rfl ?_
 refine ry (y_mov rfl rfl) rfl rfl ?_
 refine ry (y_mov rfl rfl) rfl rfl ?_
 refine reg_op (op_call (made_ok a h L A (a * h) cap _ s hl rfl hb (hr.below H14.base)) rfl kflaw43_16 ⟨rfl, rfl, rfl, trivial⟩) rfl rfl ?_
 rintro _ w16 ⟨g18, bl19, rfl, k15⟩
 have H17 := H14.call k15
 refine ry (y_mov rfl rfl) rfl rfl ?_
 refine ry (y_ext rfl rfl rfl) rfl rfl ?_
 refine ry (y_ext rfl rfl rfl) rfl rfl ?_
 refine ry (y_asg rfl rfl) rfl rfl ?_
 refine ry (y_asg rfl rfl) rfl rfl ?_
 refine reg_nil ?_
 refine fn_next ?_
 refine cw_seq ?_
 refine cw_seq ?_
 refine cw_reg ?_
 refine ry (y_mov rfl rfl) rfl rfl ?_
 refine ry (y_not rfl rfl) rfl rfl ?_
 refine reg_nil ?_
 refine fn_next ?_
 refine cw_condf rfl ?_
 refine cw_skip ?_
 refine fn_next ?_
 refine cw_seq ?_
 refine cw_reg ?_
 refine ry (y_mov rfl rfl) rfl rfl ?_
 refine ry (y_ldb (i := 2) (cs := [_, _]) H17 rfl rfl kflaw43_6 rfl rfl) rfl rfl ?_
 refine ry (y_mov rfl rfl) rfl rfl ?_
 refine reg_op (op_call (dNear_out g18 a h L cx cy t _ (H17.rdg (i := 0) rfl) hw) rfl kflaw43_7 ⟨rfl, rfl, rfl, trivial⟩) rfl rfl ?_
 rintro _ w21 ⟨rfl, e20⟩
 have H22 := H17.ext e20
 refine ry (y_mov rfl rfl) rfl rfl ?_
 refine ry (y_ext rfl rfl rfl) rfl rfl ?_
 refine ry (y_ext rfl rfl rfl) rfl rfl ?_
 refine ry (y_ext rfl rfl rfl) rfl rfl ?_
 refine ry (y_ext rfl rfl rfl) rfl rfl ?_
 refine reg_op (op_alloc H22 rfl kflaw43_8) rfl rfl ?_
 rintro _ w24 ⟨b23, rfl, H25⟩
 refine reg_op (op_st (i := 0) (vs := [.int _ _, .int _ _]) H25 rfl rfl rfl rfl rfl kflaw43_9 rfl rfl rfl) rfl rfl ?_
 rintro _ w26 H27
 refine ry (y_asg rfl rfl) rfl rfl ?_
 refine ry (y_asg rfl rfl) rfl rfl ?_
 refine ry (y_asg rfl rfl) rfl rfl ?_
 refine reg_nil ?_
 refine fn_next ?_
 refine cw_seq ?_
 refine cw_seq ?_
 refine cw_reg ?_
 refine ry (y_ldb (i := 2) (cs := [_, _, _]) H27 rfl rfl kflaw43_19 rfl rfl) rfl rfl ?_
 refine ry (y_ldb (i := 3) (cs := [_, _]) H27 rfl rfl kflaw43_6 rfl rfl) rfl rfl ?_
 refine reg_op (op_call (mAt a h A cap cx cy L _ s (hr.below H27.base) hl) rfl kflaw43_20 ⟨rfl, rfl, trivial⟩) rfl rfl ?_
 rintro _ w29 ⟨rfl, e28⟩
 have H30 := H27.ext e28
 refine ry (y_mov rfl rfl) rfl rfl ?_
 refine ry (y_ext rfl rfl rfl) rfl rfl ?_
 refine ry (y_ext rfl rfl rfl) rfl rfl ?_
 refine ry (y_asg rfl rfl) rfl rfl ?_
 refine ry (y_asg rfl rfl) rfl rfl ?_
 refine reg_nil ?_
 refine fn_next ?_
 refine cw_seq ?_
 refine cw_reg ?_
 refine ry (y_mov rfl rfl) rfl rfl ?_
 refine ry (y_neq rfl rfl rfl) rfl rfl ?_
 refine reg_nil ?_
 refine fn_next ?_
 refine cw_condd rfl (fun h31 => ?_) (fun h31 => ?_)
 ·skip
  refine cw_seq ?_
  refine cw_reg ?_
  refine ry (y_ldb (i := 0) (cs := [_, _]) H30 rfl rfl kflaw43_6 rfl rfl) rfl rfl ?_
  refine ry (y_build (places := [(0, 1), (1, 1)]) (parts := []) (vs := []) (cs := [.int _ _, .int _ _]) rfl Try.underlying46 (by kernel_rfl) kflaw43_8 rfl trivial rfl) rfl rfl ?_
  refine ry (yv (congrArg Value.bool (decide_eq_true (rfl))) (y_seq (ks := [.i64, .i64]) (a := [0, 0]) (b := [0, 0]) rfl (.inl ⟨rfl, rfl⟩) kflaw43_12 rfl rfl rfl rfl rfl rfl rfl)) rfl rfl ?_
  refine ry (y_mov rfl rfl) rfl rfl ?_
  refine rgy (y_mov rfl rfl) rfl rfl rfl rfl ?_
  refine rgy (y_eql rfl rfl rfl) rfl rfl rfl rfl ?_
  refine ry (y_pick rfl rfl rfl) rfl rfl ?_
  refine ry (y_mov rfl rfl) rfl rfl ?_
  refine rgy (y_mov rfl rfl) rfl rfl rfl rfl ?_
  refine rgy (y_not rfl rfl) rfl rfl rfl rfl ?_
  refine ry (y_pick rfl rfl rfl) rfl rfl ?_
  refine ry (y_mov rfl rfl) rfl rfl ?_
  refine rgy (y_mov rfl rfl) rfl rfl rfl rfl ?_
  refine rgy (y_mov rfl rfl) rfl rfl rfl rfl ?_
  refine rgy (yv (congrArg Value.bool (decide_eq_true (rfl))) (y_eql rfl rfl rfl)) rfl rfl rfl rfl ?_
  refine ry (y_pick rfl rfl rfl) rfl rfl ?_
  refine ry (y_asg rfl rfl) rfl rfl ?_
  refine reg_nil ?_
  refine fn_next ?_
  refine cw_ret ?_
  refine fn_then_ret ?_
  refine fn_ret1 rfl rfl ?_
  exact ⟨rfl, H30.base⟩
 · exact absurd (Classical.not_not.1 h31) hw

set_option maxRecDepth 100000 in
theorem distNearest_n (a h : Nat) (L : List Int) (A : Option Addr) (cap : Nat) (cx cy : Nat) (t : Int) (w : World) (h1 : 1 ≤ a) (h2 : a ≤ 1000) (h3 : 1 ≤ h) (h4 : h ≤ 1000) (h5 : a * h ≤ 1000) (hr : Rd w A (vi .i64 L)) (hl : L.length = a * h) (hb : AllB L) (hx : cx < a) (hy : cy < h) (hno : noS L t) :
    Ret Try.prog 5 [.int .i64 (a : Int), .int .i64 (h : Int), .slice A (a * h) cap, .agg #[.int .i64 (cx : Int), .int .i64 (cy : Int)], .int .i64 t] w (fun z w' => z = .bool true ∧ Below w.heap.size w w') := by
 have s : SzG a h := ⟨h1, by omega, h3, by omega⟩
 have hw := within_inG (x := (cx : Int)) (y := (cy : Int)) s (by omega)
 refine ret_enter Try.func5 rfl rfl rfl ?_
 have H0 := HS.start w
 refine cw_seq ?_
 refine cw_reg ?_
 refine reg_op (op_box (cs := [.int _ _, .int _ _]) H0 rfl rfl rfl) rfl rfl ?_
 rintro _ w2 ⟨b1, rfl, H3⟩
 refine ry (y_asg rfl rfl) rfl rfl ?_
 refine reg_nil ?_
 refine fn_next ?_
 refine cw_seq ?_
 refine cw_seq ?_
 refine cw_reg ?_
 refine reg_op (op_call (distAwake _) rfl kflaw43_5 trivial) rfl rfl ?_
 rintro _ w5 ⟨rfl, e4⟩
 have H6 := H3.ext e4
 refine ry (y_not rfl rfl) rfl rfl ?_
 refine reg_nil ?_
 refine fn_next ?_
 refine cw_condf rfl ?_
 refine cw_skip ?_
 refine fn_next ?_
 refine cw_seq ?_
 refine cw_reg ?_
 refine ry (y_mov rfl rfl) rfl rfl ?_
 refine ry (y_mov rfl rfl) rfl rfl ?_
 refine ry (y_mov rfl rfl) rfl rfl ?_
 refine reg_op (op_call (land_ok a h 1000 L A (a * h) cap _ h1 h2 h3 h4 h5 rfl hl hb (by decide) (hr.below H6.base)) rfl kflaw43_13 ⟨rfl, rfl, rfl, rfl, trivial⟩) rfl rfl ?_
 rintro _ w8 ⟨rfl, e7⟩
 have H9 := H6.ext e7
 refine ry (y_mov rfl rfl) rfl rfl ?_
 refine ry (y_ext rfl rfl rfl) rfl rfl ?_
 refine ry (y_ext rfl rfl rfl) rfl rfl ?_
 refine reg_op (op_alloc H9 rfl kflaw43_14) rfl rfl ?_
 rintro _ w11 ⟨b10, rfl, H12⟩
 refine reg_op (op_st (i := 0) (vs := [.int _ _, .int _ _, .slice _ _ _]) H12 rfl rfl rfl rfl rfl kflaw43_15 rfl rfl rfl) rfl rfl ?_
 rintro _ w13 H14
 refine ry (y_asg rfl rfl) rfl rfl ?_
 refine reg_nil ?_
 refine fn_next ?_
 refine cw_seq ?_
 refine cw_seq ?_
 refine cw_reg ?_
 refine ry (y_mov rfl rfl) rfl rfl ?_
 refine ry (y_not rfl rfl) rfl rfl ?_
 refine reg_nil ?_
 refine fn_next ?_
 refine cw_condf rfl ?_
 refine cw_skip ?_
 refine fn_next ?_
 refine cw_seq ?_
 refine cw_reg ?_
 refine ry (y_mov rfl rfl) rfl rfl ?_
 refine ry (y_mov rfl rfl) rfl rfl ?_
 refine ry (y_mov rfl rfl) rfl rfl ?_
 refine reg_op (op_call (made_ok a h L A (a * h) cap _ s hl rfl hb (hr.below H14.base)) rfl kflaw43_16 ⟨rfl, rfl, rfl, trivial⟩) rfl rfl ?_
 rintro _ w16 ⟨g18, bl19, rfl, k15⟩
 have H17 := H14.call k15
 refine ry (y_mov rfl rfl) rfl rfl ?_
 refine ry (y_ext rfl rfl rfl) rfl rfl ?_
 refine ry (y_ext rfl rfl rfl) rfl rfl ?_
 refine ry (y_asg rfl rfl) rfl rfl ?_
 refine ry (y_asg rfl rfl) rfl rfl ?_
 refine reg_nil ?_
 refine fn_next ?_
 refine cw_seq ?_
 refine cw_seq ?_
 refine cw_reg ?_
 refine ry (y_mov rfl rfl) rfl rfl ?_
 refine ry (y_not rfl rfl) rfl rfl ?_
 refine reg_nil ?_
 refine fn_next ?_
 refine cw_condf rfl ?_
 refine cw_skip ?_
 refine fn_next ?_
 refine cw_seq ?_
 refine cw_reg ?_
 refine ry (y_mov rfl rfl) rfl rfl ?_
 refine ry (y_ldb (i := 2) (cs := [_, _]) H17 rfl rfl kflaw43_6 rfl rfl) rfl rfl ?_
 refine ry (y_mov rfl rfl) rfl rfl ?_
 refine reg_op (op_call (dNear_no g18 a h L cx cy t _ (H17.rdg (i := 0) rfl) hx hy hno) rfl kflaw43_7 ⟨rfl, rfl, rfl, trivial⟩) rfl rfl ?_
 rintro _ w21 ⟨rfl, e20⟩
 have H22 := H17.ext e20
 refine ry (y_mov rfl rfl) rfl rfl ?_
 refine ry (y_ext rfl rfl rfl) rfl rfl ?_
 refine ry (y_ext rfl rfl rfl) rfl rfl ?_
 refine ry (y_ext rfl rfl rfl) rfl rfl ?_
 refine ry (y_ext rfl rfl rfl) rfl rfl ?_
 refine reg_op (op_alloc H22 rfl kflaw43_8) rfl rfl ?_
 rintro _ w24 ⟨b23, rfl, H25⟩
 refine reg_op (op_st (i := 0) (vs := [.int _ _, .int _ _]) H25 rfl rfl rfl rfl rfl kflaw43_9 rfl rfl rfl) rfl rfl ?_
 rintro _ w26 H27
 refine ry (y_asg rfl rfl) rfl rfl ?_
 refine ry (y_asg rfl rfl) rfl rfl ?_
 refine ry (y_asg rfl rfl) rfl rfl ?_
 refine reg_nil ?_
 refine fn_next ?_
 refine cw_seq ?_
 refine cw_seq ?_
 refine cw_reg ?_
 refine ry (y_ldb (i := 2) (cs := [_, _, _]) H27 rfl rfl kflaw43_19 rfl rfl) rfl rfl ?_
 refine ry (y_ldb (i := 3) (cs := [_, _]) H27 rfl rfl kflaw43_6 rfl rfl) rfl rfl ?_
 refine reg_op (op_call (mAt a h A cap cx cy L _ s (hr.below H27.base) hl) rfl kflaw43_20 ⟨rfl, rfl, trivial⟩) rfl rfl ?_
 rintro _ w29 ⟨rfl, e28⟩
 have H30 := H27.ext e28
 refine ry (y_mov rfl rfl) rfl rfl ?_
 refine ry (y_ext rfl rfl rfl) rfl rfl ?_
 refine ry (y_ext rfl rfl rfl) rfl rfl ?_
 refine ry (y_asg rfl rfl) rfl rfl ?_
 refine ry (y_asg rfl rfl) rfl rfl ?_
 refine reg_nil ?_
 refine fn_next ?_
 refine cw_seq ?_
 refine cw_reg ?_
 refine ry (y_mov rfl rfl) rfl rfl ?_
 refine ry (y_neq rfl rfl rfl) rfl rfl ?_
 refine reg_nil ?_
 refine fn_next ?_
 refine cw_condd rfl (fun h31 => ?_) (fun h31 => ?_)
 · exact absurd hw h31
 ·skip
  refine cw_skip ?_
  refine fn_next ?_
  refine cw_seq ?_
  refine cw_reg ?_
  refine ry (y_ldb (i := 2) (cs := [_, _, _]) H30 rfl rfl kflaw43_19 rfl rfl) rfl rfl ?_
  refine ry (y_ldb (i := 3) (cs := [_, _]) H30 rfl rfl kflaw43_6 rfl rfl) rfl rfl ?_
  refine ry (y_mov rfl rfl) rfl rfl ?_
  refine reg_op (op_call (ret_v (v := .tuple #[.agg #[.int .i64 0, .int .i64 0], .int .i64 0, .bool false]) (mNearest a h A cap L cx cy t _ s (hr.below H30.base) hl hx hy) (by rw [← hl, (nr_noS.2 hno)]; rfl)) rfl kflaw43_21 ⟨rfl, rfl, rfl, trivial⟩) rfl rfl ?_
  rintro _ w33 ⟨rfl, e32⟩
  have H34 := H30.ext e32
  refine ry (y_mov rfl rfl) rfl rfl ?_
  refine ry (y_ext rfl rfl rfl) rfl rfl ?_
  refine ry (y_ext rfl rfl rfl) rfl rfl ?_
  refine ry (y_ext rfl rfl rfl) rfl rfl ?_
  refine reg_op (op_alloc H34 rfl kflaw43_8) rfl rfl ?_
  rintro _ w36 ⟨b35, rfl, H37⟩
  refine reg_op (op_st (i := 0) (vs := [.int _ _, .int _ _]) H37 rfl rfl rfl rfl rfl kflaw43_9 rfl rfl rfl) rfl rfl ?_
  rintro _ w38 H39
  refine ry (y_asg rfl rfl) rfl rfl ?_
  refine ry (y_asg rfl rfl) rfl rfl ?_
  refine reg_nil ?_
  refine fn_next ?_
  refine cw_seq ?_
  refine cw_reg ?_
  refine ry (y_mov rfl rfl) rfl rfl ?_
  refine ry (y_eql rfl rfl rfl) rfl rfl ?_
  refine ry (y_mov rfl rfl) rfl rfl ?_
  refine rgy (y_ldb (i := 1) (cs := [_, _]) H39 rfl rfl kflaw43_6 rfl rfl) rfl rfl rfl rfl ?_
  refine rgy (y_ldb (i := 0) (cs := [_, _]) H39 rfl rfl kflaw43_6 rfl rfl) rfl rfl rfl rfl ?_
  refine rgy (yv (congrArg Value.bool (decide_eq_true (rfl))) (y_seq (ks := [.i64, .i64]) (a := [0, 0]) (b := [0, 0]) rfl (.inl ⟨rfl, rfl⟩) kflaw43_12 rfl rfl rfl rfl rfl rfl rfl)) rfl rfl rfl rfl ?_
  refine ry (y_pick rfl rfl rfl) rfl rfl ?_
  refine ry (y_mov rfl rfl) rfl rfl ?_
  refine rgy (y_mov rfl rfl) rfl rfl rfl rfl ?_
  refine rgy (y_mov rfl rfl) rfl rfl rfl rfl ?_
  refine rgy (yv (congrArg Value.bool (decide_eq_true (rfl))) (y_eql rfl rfl rfl)) rfl rfl rfl rfl ?_
  refine ry (y_pick rfl rfl rfl) rfl rfl ?_
  refine ry (y_mov rfl rfl) rfl rfl ?_
  refine rgy (y_mov rfl rfl) rfl rfl rfl rfl ?_
  refine rgy (y_mov rfl rfl) rfl rfl rfl rfl ?_
  refine rgy (y_beql rfl Try.underlying4 rfl rfl) rfl rfl rfl rfl ?_
  refine ry (y_pick rfl rfl rfl) rfl rfl ?_
  refine ry (y_asg rfl rfl) rfl rfl ?_
  refine reg_nil ?_
  refine fn_next ?_
  refine cw_ret ?_
  refine fn_ret1 rfl rfl ?_
  exact ⟨rfl, H39.base⟩

set_option maxRecDepth 100000 in
theorem distNearest_s (a h : Nat) (L : List Int) (A : Option Addr) (cap : Nat) (cx cy : Nat) (b : Nat) (t : Int) (w : World) (h1 : 1 ≤ a) (h2 : a ≤ 1000) (h3 : 1 ≤ h) (h4 : h ≤ 1000) (h5 : a * h ≤ 1000) (hr : Rd w A (vi .i64 L)) (hl : L.length = a * h) (hb : AllB L) (hx : cx < a) (hy : cy < h) (hnr : nr L a (cy * a + cx) t L.length = some b) :
    Ret Try.prog 5 [.int .i64 (a : Int), .int .i64 (h : Int), .slice A (a * h) cap, .agg #[.int .i64 (cx : Int), .int .i64 (cy : Int)], .int .i64 t] w (fun z w' => z = .bool true ∧ Below w.heap.size w w') := by
 have s : SzG a h := ⟨h1, by omega, h3, by omega⟩
 have hw := within_inG (x := (cx : Int)) (y := (cy : Int)) s (by omega)
 refine ret_enter Try.func5 rfl rfl rfl ?_
 have H0 := HS.start w
 refine cw_seq ?_
 refine cw_reg ?_
 refine reg_op (op_box (cs := [.int _ _, .int _ _]) H0 rfl rfl rfl) rfl rfl ?_
 rintro _ w2 ⟨b1, rfl, H3⟩
 refine ry (y_asg rfl rfl) rfl rfl ?_
 refine reg_nil ?_
 refine fn_next ?_
 refine cw_seq ?_
 refine cw_seq ?_
 refine cw_reg ?_
 refine reg_op (op_call (distAwake _) rfl kflaw43_5 trivial) rfl rfl ?_
 rintro _ w5 ⟨rfl, e4⟩
 have H6 := H3.ext e4
 refine ry (y_not rfl rfl) rfl rfl ?_
 refine reg_nil ?_
 refine fn_next ?_
 refine cw_condf rfl ?_
 refine cw_skip ?_
 refine fn_next ?_
 refine cw_seq ?_
 refine cw_reg ?_
 refine ry (y_mov rfl rfl) rfl rfl ?_
 refine ry (y_mov rfl rfl) rfl rfl ?_
 refine ry (y_mov rfl rfl) rfl rfl ?_
 refine reg_op (op_call (land_ok a h 1000 L A (a * h) cap _ h1 h2 h3 h4 h5 rfl hl hb (by decide) (hr.below H6.base)) rfl kflaw43_13 ⟨rfl, rfl, rfl, rfl, trivial⟩) rfl rfl ?_
 rintro _ w8 ⟨rfl, e7⟩
 have H9 := H6.ext e7
 refine ry (y_mov rfl rfl) rfl rfl ?_
 refine ry (y_ext rfl rfl rfl) rfl rfl ?_
 refine ry (y_ext rfl rfl rfl) rfl rfl ?_
 refine reg_op (op_alloc H9 rfl kflaw43_14) rfl rfl ?_
 rintro _ w11 ⟨b10, rfl, H12⟩
 refine reg_op (op_st (i := 0) (vs := [.int _ _, .int _ _, .slice _ _ _]) H12 rfl rfl rfl rfl rfl kflaw43_15 rfl rfl rfl) rfl rfl ?_
 rintro _ w13 H14
 refine ry (y_asg rfl rfl) rfl rfl ?_
 refine reg_nil ?_
 refine fn_next ?_
 refine cw_seq ?_
 refine cw_seq ?_
 refine cw_reg ?_
 refine ry (y_mov rfl rfl) rfl rfl ?_
 refine ry (y_not rfl rfl) rfl rfl ?_
 refine reg_nil ?_
 refine fn_next ?_
 refine cw_condf rfl ?_
 refine cw_skip ?_
 refine fn_next ?_
 refine cw_seq ?_
 refine cw_reg ?_
 refine ry (y_mov rfl rfl) rfl rfl ?_
 refine ry (y_mov rfl rfl) rfl rfl ?_
 refine ry (y_mov rfl rfl) rfl rfl ?_
 refine reg_op (op_call (made_ok a h L A (a * h) cap _ s hl rfl hb (hr.below H14.base)) rfl kflaw43_16 ⟨rfl, rfl, rfl, trivial⟩) rfl rfl ?_
 rintro _ w16 ⟨g18, bl19, rfl, k15⟩
 have H17 := H14.call k15
 refine ry (y_mov rfl rfl) rfl rfl ?_
 refine ry (y_ext rfl rfl rfl) rfl rfl ?_
 refine ry (y_ext rfl rfl rfl) rfl rfl ?_
 refine ry (y_asg rfl rfl) rfl rfl ?_
 refine ry (y_asg rfl rfl) rfl rfl ?_
 refine reg_nil ?_
 refine fn_next ?_
 refine cw_seq ?_
 refine cw_seq ?_
 refine cw_reg ?_
 refine ry (y_mov rfl rfl) rfl rfl ?_
 refine ry (y_not rfl rfl) rfl rfl ?_
 refine reg_nil ?_
 refine fn_next ?_
 refine cw_condf rfl ?_
 refine cw_skip ?_
 refine fn_next ?_
 refine cw_seq ?_
 refine cw_reg ?_
 refine ry (y_mov rfl rfl) rfl rfl ?_
 refine ry (y_ldb (i := 2) (cs := [_, _]) H17 rfl rfl kflaw43_6 rfl rfl) rfl rfl ?_
 refine ry (y_mov rfl rfl) rfl rfl ?_
 refine reg_op (op_call (dNear_ok g18 a h L cx cy b t _ (H17.rdg (i := 0) rfl) hx hy hnr) rfl kflaw43_7 ⟨rfl, rfl, rfl, trivial⟩) rfl rfl ?_
 rintro _ w21 ⟨rfl, e20⟩
 have H22 := H17.ext e20
 refine ry (y_mov rfl rfl) rfl rfl ?_
 refine ry (y_ext rfl rfl rfl) rfl rfl ?_
 refine ry (y_ext rfl rfl rfl) rfl rfl ?_
 refine ry (y_ext rfl rfl rfl) rfl rfl ?_
 refine ry (y_ext rfl rfl rfl) rfl rfl ?_
 refine reg_op (op_alloc H22 rfl kflaw43_8) rfl rfl ?_
 rintro _ w24 ⟨b23, rfl, H25⟩
 refine reg_op (op_st (i := 0) (vs := [.int _ _, .int _ _]) H25 rfl rfl rfl rfl rfl kflaw43_9 rfl rfl rfl) rfl rfl ?_
 rintro _ w26 H27
 refine ry (y_asg rfl rfl) rfl rfl ?_
 refine ry (y_asg rfl rfl) rfl rfl ?_
 refine ry (y_asg rfl rfl) rfl rfl ?_
 refine reg_nil ?_
 refine fn_next ?_
 refine cw_seq ?_
 refine cw_seq ?_
 refine cw_reg ?_
 refine ry (y_ldb (i := 2) (cs := [_, _, _]) H27 rfl rfl kflaw43_19 rfl rfl) rfl rfl ?_
 refine ry (y_ldb (i := 3) (cs := [_, _]) H27 rfl rfl kflaw43_6 rfl rfl) rfl rfl ?_
 refine reg_op (op_call (mAt a h A cap cx cy L _ s (hr.below H27.base) hl) rfl kflaw43_20 ⟨rfl, rfl, trivial⟩) rfl rfl ?_
 rintro _ w29 ⟨rfl, e28⟩
 have H30 := H27.ext e28
 refine ry (y_mov rfl rfl) rfl rfl ?_
 refine ry (y_ext rfl rfl rfl) rfl rfl ?_
 refine ry (y_ext rfl rfl rfl) rfl rfl ?_
 refine ry (y_asg rfl rfl) rfl rfl ?_
 refine ry (y_asg rfl rfl) rfl rfl ?_
 refine reg_nil ?_
 refine fn_next ?_
 refine cw_seq ?_
 refine cw_reg ?_
 refine ry (y_mov rfl rfl) rfl rfl ?_
 refine ry (y_neq rfl rfl rfl) rfl rfl ?_
 refine reg_nil ?_
 refine fn_next ?_
 refine cw_condd rfl (fun h31 => ?_) (fun h31 => ?_)
 · exact absurd hw h31
 ·skip
  refine cw_skip ?_
  refine fn_next ?_
  refine cw_seq ?_
  refine cw_reg ?_
  refine ry (y_ldb (i := 2) (cs := [_, _, _]) H30 rfl rfl kflaw43_19 rfl rfl) rfl rfl ?_
  refine ry (y_ldb (i := 3) (cs := [_, _]) H30 rfl rfl kflaw43_6 rfl rfl) rfl rfl ?_
  refine ry (y_mov rfl rfl) rfl rfl ?_
  refine reg_op (op_call (ret_v (v := .tuple #[.agg #[.int .i64 ((b % a : Nat) : Int), .int .i64 ((b / a : Nat) : Int)], .int .i64 ((l1 a (cy * a + cx) b : Nat) : Int), .bool true]) (mNearest a h A cap L cx cy t _ s (hr.below H30.base) hl hx hy) (by rw [← hl, hnr]; rfl)) rfl kflaw43_21 ⟨rfl, rfl, rfl, trivial⟩) rfl rfl ?_
  rintro _ w33 ⟨rfl, e32⟩
  have H34 := H30.ext e32
  refine ry (y_mov rfl rfl) rfl rfl ?_
  refine ry (y_ext rfl rfl rfl) rfl rfl ?_
  refine ry (y_ext rfl rfl rfl) rfl rfl ?_
  refine ry (y_ext rfl rfl rfl) rfl rfl ?_
  refine reg_op (op_alloc H34 rfl kflaw43_8) rfl rfl ?_
  rintro _ w36 ⟨b35, rfl, H37⟩
  refine reg_op (op_st (i := 0) (vs := [.int _ _, .int _ _]) H37 rfl rfl rfl rfl rfl kflaw43_9 rfl rfl rfl) rfl rfl ?_
  rintro _ w38 H39
  refine ry (y_asg rfl rfl) rfl rfl ?_
  refine ry (y_asg rfl rfl) rfl rfl ?_
  refine reg_nil ?_
  refine fn_next ?_
  refine cw_seq ?_
  refine cw_reg ?_
  refine ry (y_mov rfl rfl) rfl rfl ?_
  refine ry (y_eql rfl rfl rfl) rfl rfl ?_
  refine ry (y_mov rfl rfl) rfl rfl ?_
  refine rgy (y_ldb (i := 1) (cs := [_, _]) H39 rfl rfl kflaw43_6 rfl rfl) rfl rfl rfl rfl ?_
  refine rgy (y_ldb (i := 0) (cs := [_, _]) H39 rfl rfl kflaw43_6 rfl rfl) rfl rfl rfl rfl ?_
  refine rgy (yv (congrArg Value.bool (decide_eq_true (rfl))) (y_seq (ks := [.i64, .i64]) (a := [((b % a : Nat) : Int), ((b / a : Nat) : Int)]) (b := [((b % a : Nat) : Int), ((b / a : Nat) : Int)]) rfl (.inl ⟨rfl, rfl⟩) kflaw43_12 rfl rfl rfl rfl rfl rfl rfl)) rfl rfl rfl rfl ?_
  refine ry (y_pick rfl rfl rfl) rfl rfl ?_
  refine ry (y_mov rfl rfl) rfl rfl ?_
  refine rgy (y_mov rfl rfl) rfl rfl rfl rfl ?_
  refine rgy (y_mov rfl rfl) rfl rfl rfl rfl ?_
  refine rgy (yv (congrArg Value.bool (decide_eq_true (rfl))) (y_eql rfl rfl rfl)) rfl rfl rfl rfl ?_
  refine ry (y_pick rfl rfl rfl) rfl rfl ?_
  refine ry (y_mov rfl rfl) rfl rfl ?_
  refine rgy (y_mov rfl rfl) rfl rfl rfl rfl ?_
  refine rgy (y_mov rfl rfl) rfl rfl rfl rfl ?_
  refine rgy (y_beql rfl Try.underlying4 rfl rfl) rfl rfl rfl rfl ?_
  refine ry (y_pick rfl rfl rfl) rfl rfl ?_
  refine ry (y_asg rfl rfl) rfl rfl ?_
  refine reg_nil ?_
  refine fn_next ?_
  refine cw_ret ?_
  refine fn_ret1 rfl rfl ?_
  exact ⟨rfl, H39.base⟩

theorem distNearest_all (a h : Int) (L : List Int) (A : Option Addr) (n cap : Nat) (cx cy t : Int) (w : World) (ha : I6 a) (hh : I6 h) (hr : Rd w A (vi .i64 L)) (hl : L.length = n) : Ret Try.prog 5 [.int .i64 a, .int .i64 h, .slice A n cap, .agg #[.int .i64 cx, .int .i64 cy], .int .i64 t] w (fun z w' => z = .bool true ∧ Below w.heap.size w w') := by
  by_cases hp : LandP a h (1000 : Nat) L
  · obtain ⟨a, h, rfl, rfl, h1, h2, h3, h4, h5, h6, h7⟩ := LandP.nat hp
    obtain rfl : n = a * h := by omega
    by_cases hw : withinC cx cy cx cy a h = 0
    · obtain ⟨p0, q0, p1, q1, rfl, rfl, e1, e2, u1, u2, u3, u4⟩ := within_natG ⟨h1, by omega, h3, by omega⟩ hw
      cases e : nr L a (q0 * a + p0) t L.length with
      | none => exact distNearest_n a h L A cap p0 q0 t w h1 h2 h3 h4 h5 hr hl h7 (by omega) (by omega) (nr_noS.1 e)
      | some b => exact distNearest_s a h L A cap p0 q0 b t w h1 h2 h3 h4 h5 hr hl h7 (by omega) (by omega) e
    · exact distNearest_out a h L A cap cx cy t w h1 h2 h3 h4 h5 hr hl h7 hw
  · exact distNearest_no a h L A n cap cx cy t w ha hh hr hl hp

theorem distNearest_law (a : Int) (h : Int) (zs : List Int) (A2 : Option Addr) (n2 c2 : Nat) (cx cy : Int) (t : Int) (W : World) (ba : I6 a) (bh : I6 h) (hzs : Ints .i64 W A2 n2 zs) (le2 : n2 ≤ c2) (mx2 : c2 ≤ maxLen) (wzs : ∀ z ∈ zs, I6 z) (bcx : I6 cx) (bcy : I6 cy) (bt : I6 t) :
    Calls Try.prog 5 #[.int .i64 a, .int .i64 h, .slice A2 n2 c2, .agg #[.int .i64 cx, .int .i64 cy], .int .i64 t] W fun e w' => e = .returned (.bool true) ∧ Below W.heap.size W w' := lawOf (distNearest_all a h zs A2 n2 c2 cx cy t W ba bh (Rd.of_ints hzs) hzs.len)

set_option maxRecDepth 100000 in
theorem distTo_no (a h : Int) (L : List Int) (A : Option Addr) (n cap : Nat) (t m : Int) (w : World) (ha : I6 a) (hh : I6 h) (hr : Rd w A (vi .i64 L)) (hl : L.length = n) (hp : ¬ LandP a h (400 : Nat) L) :
    Ret Try.prog 7 [.int .i64 a, .int .i64 h, .slice A n cap, .int .i64 t, .int .i64 m] w (fun z w' => z = .bool true ∧ Below w.heap.size w w') := by
 refine ret_enter Try.func7 rfl rfl rfl ?_
 have H0 := HS.start w
 refine cw_seq ?_
 refine cw_reg ?_
 refine ry (y_asg rfl rfl) rfl rfl ?_
 refine reg_nil ?_
 refine fn_next ?_
 refine cw_seq ?_
 refine cw_seq ?_
 refine cw_reg ?_
 refine reg_op (op_call (distAwake _) rfl kflaw43_5 trivial) rfl rfl ?_
 rintro _ w2 ⟨rfl, e1⟩
 have H3 := H0.ext e1
 refine ry (y_not rfl rfl) rfl rfl ?_
 refine reg_nil ?_
 refine fn_next ?_
 refine cw_condf rfl ?_
 refine cw_skip ?_
 refine fn_next ?_
 refine cw_seq ?_
 refine cw_reg ?_
 refine ry (y_mov rfl rfl) rfl rfl ?_
 refine ry (y_mov rfl rfl) rfl rfl ?_
 refine ry (y_mov rfl rfl) rfl rfl ?_
 refine reg_op (op_call (land_any a h 400 L A n cap _ ha hh (by decide) (hr.below H3.base) hl) rfl kflaw43_13 ⟨rfl, rfl, rfl, rfl, trivial⟩) rfl rfl ?_
 rintro _ w5 ⟨rfl, e4⟩
 have H6 := H3.ext e4
 refine ry (y_mov rfl rfl) rfl rfl ?_
 refine ry (y_ext rfl rfl rfl) rfl rfl ?_
 refine ry (y_ext rfl rfl rfl) rfl rfl ?_
 refine reg_op (op_alloc H6 rfl kflaw43_14) rfl rfl ?_
 rintro _ w8 ⟨b7, rfl, H9⟩
 refine reg_op (op_st (i := 0) (vs := [.int _ _, .int _ _, .slice _ _ _]) H9 rfl rfl rfl rfl rfl kflaw43_15 rfl rfl rfl) rfl rfl ?_
 rintro _ w10 H11
 refine ry (y_asg rfl rfl) rfl rfl ?_
 refine reg_nil ?_
 refine fn_next ?_
 refine cw_seq ?_
 refine cw_seq ?_
 refine cw_reg ?_
 refine ry (y_mov rfl rfl) rfl rfl ?_
 refine ry (y_notd rfl rfl) rfl rfl ?_
 refine reg_nil ?_
 refine fn_next ?_
 refine cw_condd rfl (fun h12 => ?_) (fun h12 => ?_)
 ·skip
  refine cw_seq ?_
  refine cw_reg ?_
  refine ry (y_asg rfl rfl) rfl rfl ?_
  refine reg_nil ?_
  refine fn_next ?_
  refine cw_ret ?_
  refine fn_then_ret ?_
  refine fn_ret1 rfl rfl ?_
  exact ⟨rfl, H11.base⟩
 · exact absurd (Classical.not_not.1 h12) hp

set_option maxRecDepth 100000 in
set_option maxHeartbeats 2000000 in
theorem distTo_n (a h : Nat) (L : List Int) (A : Option Addr) (cap : Nat) (t m : Int) (w : World) (h1 : 1 ≤ a) (h2 : a ≤ 400) (h3 : 1 ≤ h) (h4 : h ≤ 400) (h5 : a * h ≤ 400) (hr : Rd w A (vi .i64 L)) (hl : L.length = a * h) (hb : AllB L) (hno : noS L t) :
    Ret Try.prog 7 [.int .i64 (a : Int), .int .i64 (h : Int), .slice A (a * h) cap, .int .i64 t, .int .i64 m] w (fun z w' => z = .bool true ∧ Below w.heap.size w w') := by
 have s : SzG a h := ⟨h1, by omega, h3, by omega⟩
 have hm0 : 0 < a * h := s.mul.1
 have hw0 : nth (toL L a t (a * h)) 0 = toF L a t 0 := toL_at hm0
 have g0 := vi_get (k := .i64) (zs := (toL L a t (a * h))) (i := 0) (by first | (rw [toL_len]; omega) | omega)
 have gx := vi_get (k := .i64) (zs := (toL L a t (a * h))) (i := amx (toL L a t (a * h)) (a * h)) (by first | (rw [toL_len]; exact amx_lt hm0) | omega)
 have hxl := amx_lt (L := toL L a t (a * h)) hm0
 refine ret_enter Try.func7 rfl rfl rfl ?_
 have H0 := HS.start w
 refine cw_seq ?_
 refine cw_reg ?_
 refine ry (y_asg rfl rfl) rfl rfl ?_
 refine reg_nil ?_
 refine fn_next ?_
 refine cw_seq ?_
 refine cw_seq ?_
 refine cw_reg ?_
 refine reg_op (op_call (distAwake _) rfl kflaw43_5 trivial) rfl rfl ?_
 rintro _ w2 ⟨rfl, e1⟩
 have H3 := H0.ext e1
 refine ry (y_not rfl rfl) rfl rfl ?_
 refine reg_nil ?_
 refine fn_next ?_
 refine cw_condf rfl ?_
 refine cw_skip ?_
 refine fn_next ?_
 refine cw_seq ?_
 refine cw_reg ?_
 refine ry (y_mov rfl rfl) rfl rfl ?_
 refine ry (y_mov rfl rfl) rfl rfl ?_
 refine ry (y_mov rfl rfl) rfl rfl ?_
 refine reg_op (op_call (land_ok a h 400 L A (a * h) cap _ h1 h2 h3 h4 h5 rfl hl hb (by decide) (hr.below H3.base)) rfl kflaw43_13 ⟨rfl, rfl, rfl, rfl, trivial⟩) rfl rfl ?_
 rintro _ w5 ⟨rfl, e4⟩
 have H6 := H3.ext e4
 refine ry (y_mov rfl rfl) rfl rfl ?_
 refine ry (y_ext rfl rfl rfl) rfl rfl ?_
 refine ry (y_ext rfl rfl rfl) rfl rfl ?_
 refine reg_op (op_alloc H6 rfl kflaw43_14) rfl rfl ?_
 rintro _ w8 ⟨b7, rfl, H9⟩
 refine reg_op (op_st (i := 0) (vs := [.int _ _, .int _ _, .slice _ _ _]) H9 rfl rfl rfl rfl rfl kflaw43_15 rfl rfl rfl) rfl rfl ?_
 rintro _ w10 H11
 refine ry (y_asg rfl rfl) rfl rfl ?_
 refine reg_nil ?_
 refine fn_next ?_
 refine cw_seq ?_
 refine cw_seq ?_
 refine cw_reg ?_
 refine ry (y_mov rfl rfl) rfl rfl ?_
 refine ry (y_not rfl rfl) rfl rfl ?_
 refine reg_nil ?_
 refine fn_next ?_
 refine cw_condf rfl ?_
 refine cw_skip ?_
 refine fn_next ?_
 refine cw_seq ?_
 refine cw_reg ?_
 refine ry (y_mov rfl rfl) rfl rfl ?_
 refine ry (y_mov rfl rfl) rfl rfl ?_
 refine ry (y_mov rfl rfl) rfl rfl ?_
 refine reg_op (op_call (made_ok a h L A (a * h) cap _ s hl rfl hb (hr.below H11.base)) rfl kflaw43_16 ⟨rfl, rfl, rfl, trivial⟩) rfl rfl ?_
 rintro _ w13 ⟨g15, bl16, rfl, k12⟩
 have H14 := H11.call k12
 refine ry (y_mov rfl rfl) rfl rfl ?_
 refine ry (y_ext rfl rfl rfl) rfl rfl ?_
 refine ry (y_ext rfl rfl rfl) rfl rfl ?_
 refine ry (y_asg rfl rfl) rfl rfl ?_
 refine ry (y_asg rfl rfl) rfl rfl ?_
 refine reg_nil ?_
 refine fn_next ?_
 refine cw_seq ?_
 refine cw_seq ?_
 refine cw_reg ?_
 refine ry (y_mov rfl rfl) rfl rfl ?_
 refine ry (y_not rfl rfl) rfl rfl ?_
 refine reg_nil ?_
 refine fn_next ?_
 refine cw_condf rfl ?_
 refine cw_skip ?_
 refine fn_next ?_
 refine cw_seq ?_
 refine cw_reg ?_
 refine ry (y_mov rfl rfl) rfl rfl ?_
 refine ry (y_mov rfl rfl) rfl rfl ?_
 refine reg_op (op_call (dTo g15 a h (L) t _ (H14.rdg (i := 0) rfl)) rfl kflaw43_3 ⟨rfl, rfl, trivial⟩) rfl rfl ?_
 rintro _ w18 ⟨A20, c21, rfl, k17⟩
 have H19 := H14.call k17
 refine ry (y_mov rfl rfl) rfl rfl ?_
 refine ry (y_ext rfl rfl rfl) rfl rfl ?_
 refine ry (y_ext rfl rfl rfl) rfl rfl ?_
 refine ry (y_asg rfl rfl) rfl rfl ?_
 refine ry (y_asg rfl rfl) rfl rfl ?_
 refine reg_nil ?_
 refine fn_next ?_
 refine cw_seq ?_
 refine cw_reg ?_
 refine ry (y_mov rfl rfl) rfl rfl ?_
 refine ry (y_mov rfl rfl) rfl rfl ?_
 refine ry (y_mov rfl rfl) rfl rfl ?_
 refine reg_op (op_call (dWithin g15 a h L t m _ (H19.rdg (i := 1) rfl)) rfl kflaw43_10 ⟨rfl, rfl, rfl, trivial⟩) rfl rfl ?_
 rintro _ w23 ⟨A25, c26, rfl, k22⟩
 have H24 := H19.call k22
 refine ry (y_mov rfl rfl) rfl rfl ?_
 refine ry (y_ext rfl rfl rfl) rfl rfl ?_
 refine ry (y_ext rfl rfl rfl) rfl rfl ?_
 refine ry (y_asg rfl rfl) rfl rfl ?_
 refine ry (y_asg rfl rfl) rfl rfl ?_
 refine reg_nil ?_
 refine fn_next ?_
 refine cw_seq ?_
 refine cw_reg ?_
 refine ry (y_mov rfl rfl) rfl rfl ?_
 refine ry (y_mov rfl rfl) rfl rfl ?_
 refine reg_op (op_call (dFar_no g15 a h L t _ (H24.rdg (i := 2) rfl) hno) rfl kflaw43_11 ⟨rfl, rfl, trivial⟩) rfl rfl ?_
 rintro _ w28 ⟨rfl, e27⟩
 have H29 := H24.ext e27
 refine ry (y_mov rfl rfl) rfl rfl ?_
 refine ry (y_ext rfl rfl rfl) rfl rfl ?_
 refine ry (y_ext rfl rfl rfl) rfl rfl ?_
 refine ry (y_ext rfl rfl rfl) rfl rfl ?_
 refine ry (y_ext rfl rfl rfl) rfl rfl ?_
 refine reg_op (op_alloc H29 rfl kflaw43_8) rfl rfl ?_
 rintro _ w31 ⟨b30, rfl, H32⟩
 refine reg_op (op_st (i := 0) (vs := [.int _ _, .int _ _]) H32 rfl rfl rfl rfl rfl kflaw43_9 rfl rfl rfl) rfl rfl ?_
 rintro _ w33 H34
 refine ry (y_asg rfl rfl) rfl rfl ?_
 refine ry (y_asg rfl rfl) rfl rfl ?_
 refine ry (y_asg rfl rfl) rfl rfl ?_
 refine reg_nil ?_
 refine fn_next ?_
 refine cw_seq ?_
 refine cw_reg ?_
 refine ry (y_ldb (i := 4) (cs := [_, _, _]) H34 rfl rfl kflaw43_19 rfl rfl) rfl rfl ?_
 refine ry (y_mov rfl rfl) rfl rfl ?_
 refine reg_op (op_call (mTo a h A cap L t _ s (hr.below H34.base) hl) rfl kflaw43_22 ⟨rfl, rfl, trivial⟩) rfl rfl ?_
 rintro _ w36 ⟨A38, c39, rfl, k35⟩
 have H37 := H34.call k35
 refine ry (y_asg rfl rfl) rfl rfl ?_
 refine reg_nil ?_
 refine fn_next ?_
 refine cw_seq ?_
 refine cw_reg ?_
 refine reg_op (op_lit (parts := []) (vs := []) (cs := []) H37 rfl Try.underlying35 kflaw43_23 rfl trivial rfl rfl) rfl rfl ?_
 rintro _ w41 ⟨b40, rfl, H42⟩
 have H43 := H42.asrow (m := 0) (size := 2) rfl (by decide)
 refine ry (y_asg rfl rfl) rfl rfl ?_
 refine reg_nil ?_
 refine fn_next ?_
 refine cw_seq ?_
 refine cw_reg ?_
 refine ry (y_asg rfl rfl) rfl rfl ?_
 refine reg_nil ?_
 refine fn_next ?_
 refine cw_seq ?_
 refine cw_seq ?_
 refine cw_reg ?_
 refine ry (y_asg rfl rfl) rfl rfl ?_
 refine reg_nil ?_
 refine fn_next ?_
 refine cw_block ?_
 refine cw_loopJ [23, 24, 25, 71, 72, 73, 74, 75, 76, 77, 78, 79, 80, 81, 82, 83, 84, 85, 86, 87, 88, 89, 90, 91, 92, 93, 94, 95, 96, 97, 98, 99, 100, 101, 102, 103, 104, 105, 106, 107, 108, 109] (fun M wl ml => ∃ (i : Nat) (A' : Option Addr) (cap' : Nat), M = [(25, .int .i64 (i : Int)), (24, .int .i64 ((amx (toL L a t (a * h)) i : Nat) : Int)), (23, .slice A' (selN (nearW (toL L a t (a * h)) m) i) cap')] ∧ HS w wl [Ob.row A' (selN (nearW (toL L a t (a * h)) m) i) cap' (vi .i64 (selC a (nearW (toL L a t (a * h)) m) i)) 46 2, Ob.row A20 (a * h) c21 (vi .i64 (toL (L) a t (a * h))) 2 1, Ob.row A25 (selN (nearW (toL L a t (a * h)) m) (a * h)) c26 (vi .i64 (selC a (nearW (toL L a t (a * h)) m) (a * h))) 46 2, Ob.row A38 (a * h) c39 (vi .i64 (toL L a t (a * h))) 2 1, Ob.blk b30 [.int .i64 0, .int .i64 0] 46] ∧ (i ≤ a * h) ∧ ml = a * h - i) ⟨0, _, _, rfl, (H43.pick (m := [_, _, _, _, _]) [0, 4, 3, 1, 2] rfl (by decide)), Nat.zero_le _, rfl⟩ ⟨rfl, rfl, rfl, trivial⟩ ?_
 rintro M w44 m46 ⟨i, A', cap', rfl, H45, hp0, rfl⟩
 refine cw_seq ?_
 refine cw_seq ?_
 refine cw_reg ?_
 refine ry (y_mov rfl rfl) rfl rfl ?_
 refine ry (y_mov rfl rfl) rfl rfl ?_
 refine ry (y_len rfl Try.underlying22 rfl) rfl rfl ?_
 refine ry (y_lss rfl rfl rfl) rfl rfl ?_
 refine reg_nil ?_
 refine fn_next ?_
 refine cw_condd rfl (fun h47 => ?_) (fun h47 => ?_)
 ·skip
  have hi : i < a * h := by omega
  have hami := amx_lt' (L := toL L a t (a * h)) hi
  have gi := vi_get (k := .i64) (zs := (toL L a t (a * h))) (i := i) (by first | (rw [toL_len]; omega) | omega)
  have gm := vi_get (k := .i64) (zs := (toL L a t (a * h))) (i := amx (toL L a t (a * h)) i) (by first | (rw [toL_len]; exact amx_lt' hi) | omega)
  refine cw_skip ?_
  refine fn_next ?_
  refine cw_seq ?_
  refine cw_block ?_
  refine cw_seq ?_
  refine cw_seq ?_
  refine cw_reg ?_
  refine ry (y_mov rfl rfl) rfl rfl ?_
  refine ry (y_mov rfl rfl) rfl rfl ?_
  refine ry (y_iar (H45.rd (i := 3) rfl) rfl rfl rfl kflaw43_17 (rfl) (by omega) (Nat.mul_one _) (gi)) rfl rfl ?_
  refine ry (y_ldr (H45.rd (i := 3) rfl) rfl rfl kflaw43_18 (gi)) rfl rfl ?_
  refine ry (y_geq rfl rfl rfl) rfl rfl ?_
  refine ry (y_mov rfl rfl) rfl rfl ?_
  refine rg_splitd (d := 82) rfl (fun h48 => ?_) (fun h48 => ?_)
  ·skip
   have c1 := h48
   refine rgy (y_mov rfl rfl) rfl rfl rfl rfl ?_
   refine rgy (y_mov rfl rfl) rfl rfl rfl rfl ?_
   refine rgy (y_iar (H45.rd (i := 3) rfl) rfl rfl rfl kflaw43_17 (rfl) (by omega) (Nat.mul_one _) (gi)) rfl rfl rfl rfl ?_
   refine rgy (y_ldr (H45.rd (i := 3) rfl) rfl rfl kflaw43_18 (gi)) rfl rfl rfl rfl ?_
   refine rgy (y_mov rfl rfl) rfl rfl rfl rfl ?_
   refine rgy (y_leq rfl rfl rfl) rfl rfl rfl rfl ?_
   refine ry (y_pick rfl rfl rfl) rfl rfl ?_
   refine reg_nil ?_
   refine fn_next ?_
   refine cw_condd rfl (fun h49 => ?_) (fun h49 => ?_)
   ·skip
    have hp : (nearW (toL L a t (a * h)) m) i = true := decide_eq_true ⟨c1, h49⟩
    refine cw_draw H45 [0, 1, 2, 3, 4, 5, 6, 7] [8, 9, 10] (fun X HX => (HX.pick (m := [_, _, _, _]) [1, 2, 3, 4] rfl (by decide))) (by kernel_rfl) (by kernel_rfl) (by rfl) ?_
    simp only [pick, List.getElem?_cons_succ, List.getElem?_cons_zero]
    refine hk_y (fun Y HY => y_mov rfl rfl) rfl rfl ?_
    refine hk_y (fun Y HY => y_mov rfl rfl) rfl rfl ?_
    refine hk_y (fun Y HY => y_mov rfl rfl) rfl rfl ?_
    refine hk_y (fun Y HY => y_rem rfl rfl rfl (by omega) (remN)) rfl rfl ?_
    refine hk_y (fun Y HY => y_mov rfl rfl) rfl rfl ?_
    refine hk_y (fun Y HY => y_mov rfl rfl) rfl rfl ?_
    refine hk_y (fun Y HY => y_quo rfl rfl rfl (by omega) (quoN (by omega))) rfl rfl ?_
    refine hk_y (fun Y HY => y_build (places := [(0, 1), (1, 1)]) (parts := [(0, _), (1, _)]) (vs := [(0, _), (1, _)]) (cs := [.int _ _, .int _ _]) rfl Try.underlying46 (by kernel_rfl) kflaw43_8 rfl ⟨rfl, rfl, trivial⟩ rfl) rfl rfl ?_
    refine hk_nil ?_
    intro w50 H51
    refine tv_op (op_lit (parts := [(0, _)]) (vs := [(0, _)]) (cs := [.int _ _, .int _ _]) H51 rfl Try.underlying35 kflaw43_23 rfl ⟨rfl, trivial⟩ rfl rfl) rfl rfl ?_
    rintro _ w53 ⟨b52, rfl, H54⟩
    have H55 := H54.asrow (m := 1) (size := 2) rfl (by decide)
    refine ⟨(H55.pick (m := [_, _, _, _]) [2, 3, 4, 5] rfl (by decide)), fun w56 e58 => ?_⟩
    have H57 := H55.ext e58
    refine tv_op (op_app (i := 1) H57 rfl rfl rfl rfl (H57.rd (i := 0) rfl) (rfl) (rfl) Try.underlying35 kflaw43_24 rfl rfl (by have := selN_le (p := (nearW (toL L a t (a * h)) m)) i; unfold maxLen; omega) (by have := selN_le (p := (nearW (toL L a t (a * h)) m)) i; omega)) rfl rfl ?_
    rintro _ w61 ⟨A59, c60, rfl, H62⟩
    refine ⟨(H62.pick (m := [_, _, _, _]) [2, 3, 4, 5] rfl (by decide)), fun w63 e65 => ?_⟩
    have H64 := H62.ext e65
    refine tv_op (Yd.op (y_asg rfl rfl)) rfl rfl ?_
    rintro _ _ ⟨rfl, rfl⟩
    refine ⟨(H64.pick (m := [_, _, _, _]) [2, 3, 4, 5] rfl (by decide)), fun w66 e68 => ?_⟩
    have H67 := H64.ext e68
    refine tv_nil ?_
    refine fn_next ?_
    refine cw_seq ?_
    refine cw_draw H67 [0, 1, 2, 3, 4, 5, 6, 7, 8] [] (fun X HX => HX) (by kernel_rfl) (by kernel_rfl) (by rfl) ?_
    simp only [pick, List.getElem?_cons_succ, List.getElem?_cons_zero]
    refine hk_y (fun Y HY => y_mov rfl rfl) rfl rfl ?_
    refine hk_y (fun Y HY => y_mov rfl rfl) rfl rfl ?_
    refine hk_y (fun Y HY => y_iar (HY.rd (i := 4) rfl) rfl rfl rfl kflaw43_17 (rfl) (by omega) (Nat.mul_one _) (gi)) rfl rfl ?_
    refine hk_y (fun Y HY => y_ldr (HY.rd (i := 4) rfl) rfl rfl kflaw43_18 (gi)) rfl rfl ?_
    refine hk_y (fun Y HY => y_mov rfl rfl) rfl rfl ?_
    refine hk_y (fun Y HY => y_mov rfl rfl) rfl rfl ?_
    refine hk_y (fun Y HY => y_iar (HY.rd (i := 4) rfl) rfl rfl rfl kflaw43_17 (rfl) (by omega) (Nat.mul_one _) (gm)) rfl rfl ?_
    refine hk_y (fun Y HY => y_ldr (HY.rd (i := 4) rfl) rfl rfl kflaw43_18 (gm)) rfl rfl ?_
    refine hk_y (fun Y HY => y_gtr rfl rfl rfl) rfl rfl ?_
    refine hk_nil ?_
    intro w69 H70
    refine tv_nil ?_
    refine fn_next ?_
    refine cw_condd rfl (fun hg => ?_) (fun hg => ?_)
    ·skip
     refine cw_reg ?_
     refine ry (y_mov rfl rfl) rfl rfl ?_
     refine ry (y_asg rfl rfl) rfl rfl ?_
     refine reg_nil ?_
     refine fn_block ?_
     refine fn_next ?_
     refine cw_reg ?_
     refine ry (y_mov rfl rfl) rfl rfl ?_
     refine ry (y_add rfl rfl rfl (wi (by omega))) rfl rfl ?_
     refine ry (y_asg rfl rfl) rfl rfl ?_
     refine reg_nil ?_
     first | rw [vi_two, selC_t hp, selN_t hp] at H70 | rw [selC_f hp, selN_f hp] at H70
     refine fn_roundJ ⟨i + 1, _, _, rfl, (H70.pick (m := [_, _, _, _, _]) [1, 2, 3, 4, 5] rfl (by decide)), by omega, rfl⟩ ⟨rfl, by first | (rw [← amx_t hg]; rfl) | (rw [← amx_f hg]; rfl), by first | rfl | (rw [← selN_t hp]; rfl) | (rw [← selN_f hp]; rfl), trivial⟩ (by omega) (by repeat (first | exact kp_refl | refine kp_app rfl rfl ?_ | refine kp_cons rfl ?_)) rfl
    ·skip
     refine cw_skip ?_
     refine fn_block ?_
     refine fn_next ?_
     refine cw_reg ?_
     refine ry (y_mov rfl rfl) rfl rfl ?_
     refine ry (y_add rfl rfl rfl (wi (by omega))) rfl rfl ?_
     refine ry (y_asg rfl rfl) rfl rfl ?_
     refine reg_nil ?_
     first | rw [vi_two, selC_t hp, selN_t hp] at H70 | rw [selC_f hp, selN_f hp] at H70
     refine fn_roundJ ⟨i + 1, _, _, rfl, (H70.pick (m := [_, _, _, _, _]) [1, 2, 3, 4, 5] rfl (by decide)), by omega, rfl⟩ ⟨rfl, by first | (rw [← amx_t hg]; rfl) | (rw [← amx_f hg]; rfl), by first | rfl | (rw [← selN_t hp]; rfl) | (rw [← selN_f hp]; rfl), trivial⟩ (by omega) (by repeat (first | exact kp_refl | refine kp_app rfl rfl ?_ | refine kp_cons rfl ?_)) rfl
   ·skip
    have hp : ¬ (nearW (toL L a t (a * h)) m) i = true := fun q => h49 (of_decide_eq_true q).2
    refine cw_skip ?_
    refine fn_next ?_
    refine cw_seq ?_
    refine cw_draw H45 [0, 1, 2, 3, 4, 5, 6, 7, 8] [] (fun X HX => HX) (by kernel_rfl) (by kernel_rfl) (by rfl) ?_
    simp only [pick, List.getElem?_cons_succ, List.getElem?_cons_zero]
    refine hk_y (fun Y HY => y_mov rfl rfl) rfl rfl ?_
    refine hk_y (fun Y HY => y_mov rfl rfl) rfl rfl ?_
    refine hk_y (fun Y HY => y_iar (HY.rd (i := 3) rfl) rfl rfl rfl kflaw43_17 (rfl) (by omega) (Nat.mul_one _) (gi)) rfl rfl ?_
    refine hk_y (fun Y HY => y_ldr (HY.rd (i := 3) rfl) rfl rfl kflaw43_18 (gi)) rfl rfl ?_
    refine hk_y (fun Y HY => y_mov rfl rfl) rfl rfl ?_
    refine hk_y (fun Y HY => y_mov rfl rfl) rfl rfl ?_
    refine hk_y (fun Y HY => y_iar (HY.rd (i := 3) rfl) rfl rfl rfl kflaw43_17 (rfl) (by omega) (Nat.mul_one _) (gm)) rfl rfl ?_
    refine hk_y (fun Y HY => y_ldr (HY.rd (i := 3) rfl) rfl rfl kflaw43_18 (gm)) rfl rfl ?_
    refine hk_y (fun Y HY => y_gtr rfl rfl rfl) rfl rfl ?_
    refine hk_nil ?_
    intro w72 H73
    refine tv_nil ?_
    refine fn_next ?_
    refine cw_condd rfl (fun hg => ?_) (fun hg => ?_)
    ·skip
     refine cw_reg ?_
     refine ry (y_mov rfl rfl) rfl rfl ?_
     refine ry (y_asg rfl rfl) rfl rfl ?_
     refine reg_nil ?_
     refine fn_block ?_
     refine fn_next ?_
     refine cw_reg ?_
     refine ry (y_mov rfl rfl) rfl rfl ?_
     refine ry (y_add rfl rfl rfl (wi (by omega))) rfl rfl ?_
     refine ry (y_asg rfl rfl) rfl rfl ?_
     refine reg_nil ?_
     first | rw [vi_two, selC_t hp, selN_t hp] at H73 | rw [selC_f hp, selN_f hp] at H73
     refine fn_roundJ ⟨i + 1, _, _, rfl, H73, by omega, rfl⟩ ⟨rfl, by first | (rw [← amx_t hg]; rfl) | (rw [← amx_f hg]; rfl), by first | rfl | (rw [← selN_t hp]; rfl) | (rw [← selN_f hp]; rfl), trivial⟩ (by omega) (by repeat (first | exact kp_refl | refine kp_app rfl rfl ?_ | refine kp_cons rfl ?_)) rfl
    ·skip
     refine cw_skip ?_
     refine fn_block ?_
     refine fn_next ?_
     refine cw_reg ?_
     refine ry (y_mov rfl rfl) rfl rfl ?_
     refine ry (y_add rfl rfl rfl (wi (by omega))) rfl rfl ?_
     refine ry (y_asg rfl rfl) rfl rfl ?_
     refine reg_nil ?_
     first | rw [vi_two, selC_t hp, selN_t hp] at H73 | rw [selC_f hp, selN_f hp] at H73
     refine fn_roundJ ⟨i + 1, _, _, rfl, H73, by omega, rfl⟩ ⟨rfl, by first | (rw [← amx_t hg]; rfl) | (rw [← amx_f hg]; rfl), by first | rfl | (rw [← selN_t hp]; rfl) | (rw [← selN_f hp]; rfl), trivial⟩ (by omega) (by repeat (first | exact kp_refl | refine kp_app rfl rfl ?_ | refine kp_cons rfl ?_)) rfl
  ·skip
   have hp : ¬ (nearW (toL L a t (a * h)) m) i = true := fun q => h48 (of_decide_eq_true q).1
   refine rg_off rfl rfl rfl rfl rfl ?_
   refine rg_off rfl rfl rfl rfl rfl ?_
   refine rg_off rfl rfl rfl rfl rfl ?_
   refine rg_off rfl rfl rfl rfl rfl ?_
   refine rg_off rfl rfl rfl rfl rfl ?_
   refine rg_off rfl rfl rfl rfl rfl ?_
   refine ry (y_pick rfl rfl rfl) rfl rfl ?_
   refine reg_nil ?_
   refine fn_next ?_
   refine cw_condf rfl ?_
   refine cw_skip ?_
   refine fn_next ?_
   refine cw_seq ?_
   refine cw_draw H45 [0, 1, 2, 3, 4, 5, 6, 7, 8] [] (fun X HX => HX) (by kernel_rfl) (by kernel_rfl) (by rfl) ?_
   simp only [pick, List.getElem?_cons_succ, List.getElem?_cons_zero]
   refine hk_y (fun Y HY => y_mov rfl rfl) rfl rfl ?_
   refine hk_y (fun Y HY => y_mov rfl rfl) rfl rfl ?_
   refine hk_y (fun Y HY => y_iar (HY.rd (i := 3) rfl) rfl rfl rfl kflaw43_17 (rfl) (by omega) (Nat.mul_one _) (gi)) rfl rfl ?_
   refine hk_y (fun Y HY => y_ldr (HY.rd (i := 3) rfl) rfl rfl kflaw43_18 (gi)) rfl rfl ?_
   refine hk_y (fun Y HY => y_mov rfl rfl) rfl rfl ?_
   refine hk_y (fun Y HY => y_mov rfl rfl) rfl rfl ?_
   refine hk_y (fun Y HY => y_iar (HY.rd (i := 3) rfl) rfl rfl rfl kflaw43_17 (rfl) (by omega) (Nat.mul_one _) (gm)) rfl rfl ?_
   refine hk_y (fun Y HY => y_ldr (HY.rd (i := 3) rfl) rfl rfl kflaw43_18 (gm)) rfl rfl ?_
   refine hk_y (fun Y HY => y_gtr rfl rfl rfl) rfl rfl ?_
   refine hk_nil ?_
   intro w75 H76
   refine tv_nil ?_
   refine fn_next ?_
   refine cw_condd rfl (fun hg => ?_) (fun hg => ?_)
   ·skip
    refine cw_reg ?_
    refine ry (y_mov rfl rfl) rfl rfl ?_
    refine ry (y_asg rfl rfl) rfl rfl ?_
    refine reg_nil ?_
    refine fn_block ?_
    refine fn_next ?_
    refine cw_reg ?_
    refine ry (y_mov rfl rfl) rfl rfl ?_
    refine ry (y_add rfl rfl rfl (wi (by omega))) rfl rfl ?_
    refine ry (y_asg rfl rfl) rfl rfl ?_
    refine reg_nil ?_
    first | rw [vi_two, selC_t hp, selN_t hp] at H76 | rw [selC_f hp, selN_f hp] at H76
    refine fn_roundJ ⟨i + 1, _, _, rfl, H76, by omega, rfl⟩ ⟨rfl, by first | (rw [← amx_t hg]; rfl) | (rw [← amx_f hg]; rfl), by first | rfl | (rw [← selN_t hp]; rfl) | (rw [← selN_f hp]; rfl), trivial⟩ (by omega) (by repeat (first | exact kp_refl | refine kp_app rfl rfl ?_ | refine kp_cons rfl ?_)) rfl
   ·skip
    refine cw_skip ?_
    refine fn_block ?_
    refine fn_next ?_
    refine cw_reg ?_
    refine ry (y_mov rfl rfl) rfl rfl ?_
    refine ry (y_add rfl rfl rfl (wi (by omega))) rfl rfl ?_
    refine ry (y_asg rfl rfl) rfl rfl ?_
    refine reg_nil ?_
    first | rw [vi_two, selC_t hp, selN_t hp] at H76 | rw [selC_f hp, selN_f hp] at H76
    refine fn_roundJ ⟨i + 1, _, _, rfl, H76, by omega, rfl⟩ ⟨rfl, by first | (rw [← amx_t hg]; rfl) | (rw [← amx_f hg]; rfl), by first | rfl | (rw [← selN_t hp]; rfl) | (rw [← selN_f hp]; rfl), trivial⟩ (by omega) (by repeat (first | exact kp_refl | refine kp_app rfl rfl ?_ | refine kp_cons rfl ?_)) rfl
 ·skip
  have hie : i = a * h := by omega
  subst hie
  refine cw_exit ?_
  refine fn_then_exit (fn_then_exit (fn_block_exit ?_))
  refine fn_next ?_
  refine cw_seq ?_
  refine cw_seq ?_
  refine cw_reg ?_
  refine ry (y_mov rfl rfl) rfl rfl ?_
  refine ry (y_neq rfl rfl rfl) rfl rfl ?_
  refine ry (y_mov rfl rfl) rfl rfl ?_
  refine rgy (y_mov rfl rfl) rfl rfl rfl rfl ?_
  refine rgy (y_neq rfl rfl rfl) rfl rfl rfl rfl ?_
  refine ry (y_pick rfl rfl rfl) rfl rfl ?_
  refine ry (y_mov rfl rfl) rfl rfl ?_
  refine rgy (y_mov rfl rfl) rfl rfl rfl rfl ?_
  refine rgy (y_neq rfl rfl rfl) rfl rfl rfl rfl ?_
  refine ry (y_pick rfl rfl rfl) rfl rfl ?_
  refine ry (y_mov rfl rfl) rfl rfl ?_
  refine rgy (y_mov rfl rfl) rfl rfl rfl rfl ?_
  refine rgy (y_mov rfl rfl) rfl rfl rfl rfl ?_
  refine rg_on rfl rfl rfl (op_call (ret_v (v := .bool true) (refSame_any _ (a * h) _ (toL L a t (a * h)) _ (a * h) _ (toL L a t (a * h)) _ (H45.rd (i := 1) rfl) (toL_len) (H45.rd (i := 3) rfl) (toL_len) (by omega)) (by rw [decide_eq_true (rfl)])) rfl kflaw43_4 ⟨rfl, rfl, trivial⟩) rfl ?_
  rintro _ w79 ⟨rfl, e78⟩
  have H80 := H45.ext e78
  refine rgy (y_not rfl rfl) rfl rfl rfl rfl ?_
  refine ry (y_pick rfl rfl rfl) rfl rfl ?_
  refine ry (y_mov rfl rfl) rfl rfl ?_
  refine rgy (y_mov rfl rfl) rfl rfl rfl rfl ?_
  refine rgy (y_mov rfl rfl) rfl rfl rfl rfl ?_
  refine rg_on rfl rfl rfl (op_call (sameCells _ (selN (nearW (toL L a t (a * h)) m) (a * h)) _ _ _ (selC a (nearW (toL L a t (a * h)) m) (a * h)) _ (H80.rd (i := 2) rfl) (H80.rd (i := 0) rfl) (selC_len _) (by have := selN_le (p := (nearW (toL L a t (a * h)) m)) (a * h); omega)) rfl kflaw43_25 ⟨rfl, rfl, trivial⟩) rfl ?_
  rintro _ w82 ⟨rfl, e81⟩
  have H83 := H80.ext e81
  refine rgy (y_not rfl rfl) rfl rfl rfl rfl ?_
  refine ry (y_pick rfl rfl rfl) rfl rfl ?_
  refine ry (y_mov rfl rfl) rfl rfl ?_
  refine rgy (y_mov rfl rfl) rfl rfl rfl rfl ?_
  refine rgy (y_mov rfl rfl) rfl rfl rfl rfl ?_
  refine rgy (y_iar (i := 0) (H83.rd (i := 3) rfl) rfl rfl rfl kflaw43_17 (rfl) (by omega) (Nat.mul_one _) (g0)) rfl rfl rfl rfl ?_
  refine rgy (y_ldr (H83.rd (i := 3) rfl) rfl rfl kflaw43_18 (g0)) rfl rfl rfl rfl ?_
  refine rgy (yv (congrArg Value.bool (decide_eq_false (by rw [hw0, toF_no hno]; decide))) (y_geq rfl rfl rfl)) rfl rfl rfl rfl ?_
  refine rgy (y_bneq rfl Try.underlying4 rfl rfl) rfl rfl rfl rfl ?_
  refine ry (y_pick rfl rfl rfl) rfl rfl ?_
  refine reg_nil ?_
  refine fn_next ?_
  refine cw_condf rfl ?_
  refine cw_skip ?_
  refine fn_next ?_
  refine cw_seq ?_
  refine cw_seq ?_
  refine cw_reg ?_
  refine ry (y_mov rfl rfl) rfl rfl ?_
  refine ry (y_not rfl rfl) rfl rfl ?_
  refine reg_nil ?_
  refine fn_next ?_
  refine cw_condt rfl ?_
  refine cw_seq ?_
  refine cw_reg ?_
  refine ry (y_ldb (i := 4) (cs := [_, _]) H83 rfl rfl kflaw43_6 rfl rfl) rfl rfl ?_
  refine ry (y_build (places := [(0, 1), (1, 1)]) (parts := []) (vs := []) (cs := [.int _ _, .int _ _]) rfl Try.underlying46 (by kernel_rfl) kflaw43_8 rfl trivial rfl) rfl rfl ?_
  refine ry (yv (congrArg Value.bool (decide_eq_true (rfl))) (y_seq (ks := [.i64, .i64]) (a := [0, 0]) (b := [0, 0]) rfl (.inl ⟨rfl, rfl⟩) kflaw43_12 rfl rfl rfl rfl rfl rfl rfl)) rfl rfl ?_
  refine ry (y_mov rfl rfl) rfl rfl ?_
  refine rgy (y_mov rfl rfl) rfl rfl rfl rfl ?_
  refine rgy (y_eql rfl rfl rfl) rfl rfl rfl rfl ?_
  refine ry (y_pick rfl rfl rfl) rfl rfl ?_
  refine ry (y_asg rfl rfl) rfl rfl ?_
  refine reg_nil ?_
  refine fn_next ?_
  refine cw_ret ?_
  refine fn_then_ret ?_
  refine fn_ret1 rfl rfl ?_
  exact ⟨rfl, H83.base⟩

set_option maxRecDepth 100000 in
set_option maxHeartbeats 2000000 in
theorem distTo_s (a h : Nat) (L : List Int) (A : Option Addr) (cap : Nat) (t m : Int) (w : World) (h1 : 1 ≤ a) (h2 : a ≤ 400) (h3 : 1 ≤ h) (h4 : h ≤ 400) (h5 : a * h ≤ 400) (hr : Rd w A (vi .i64 L)) (hl : L.length = a * h) (hb : AllB L) (hno : ¬ noS L t) :
    Ret Try.prog 7 [.int .i64 (a : Int), .int .i64 (h : Int), .slice A (a * h) cap, .int .i64 t, .int .i64 m] w (fun z w' => z = .bool true ∧ Below w.heap.size w w') := by
 have s : SzG a h := ⟨h1, by omega, h3, by omega⟩
 have hm0 : 0 < a * h := s.mul.1
 have hw0 : nth (toL L a t (a * h)) 0 = toF L a t 0 := toL_at hm0
 have g0 := vi_get (k := .i64) (zs := (toL L a t (a * h))) (i := 0) (by first | (rw [toL_len]; omega) | omega)
 have gx := vi_get (k := .i64) (zs := (toL L a t (a * h))) (i := amx (toL L a t (a * h)) (a * h)) (by first | (rw [toL_len]; exact amx_lt hm0) | omega)
 have hxl := amx_lt (L := toL L a t (a * h)) hm0
 refine ret_enter Try.func7 rfl rfl rfl ?_
 have H0 := HS.start w
 refine cw_seq ?_
 refine cw_reg ?_
 refine ry (y_asg rfl rfl) rfl rfl ?_
 refine reg_nil ?_
 refine fn_next ?_
 refine cw_seq ?_
 refine cw_seq ?_
 refine cw_reg ?_
 refine reg_op (op_call (distAwake _) rfl kflaw43_5 trivial) rfl rfl ?_
 rintro _ w2 ⟨rfl, e1⟩
 have H3 := H0.ext e1
 refine ry (y_not rfl rfl) rfl rfl ?_
 refine reg_nil ?_
 refine fn_next ?_
 refine cw_condf rfl ?_
 refine cw_skip ?_
 refine fn_next ?_
 refine cw_seq ?_
 refine cw_reg ?_
 refine ry (y_mov rfl rfl) rfl rfl ?_
 refine ry (y_mov rfl rfl) rfl rfl ?_
 refine ry (y_mov rfl rfl) rfl rfl ?_
 refine reg_op (op_call (land_ok a h 400 L A (a * h) cap _ h1 h2 h3 h4 h5 rfl hl hb (by decide) (hr.below H3.base)) rfl kflaw43_13 ⟨rfl, rfl, rfl, rfl, trivial⟩) rfl rfl ?_
 rintro _ w5 ⟨rfl, e4⟩
 have H6 := H3.ext e4
 refine ry (y_mov rfl rfl) rfl rfl ?_
 refine ry (y_ext rfl rfl rfl) rfl rfl ?_
 refine ry (y_ext rfl rfl rfl) rfl rfl ?_
 refine reg_op (op_alloc H6 rfl kflaw43_14) rfl rfl ?_
 rintro _ w8 ⟨b7, rfl, H9⟩
 refine reg_op (op_st (i := 0) (vs := [.int _ _, .int _ _, .slice _ _ _]) H9 rfl rfl rfl rfl rfl kflaw43_15 rfl rfl rfl) rfl rfl ?_
 rintro _ w10 H11
 refine ry (y_asg rfl rfl) rfl rfl ?_
 refine reg_nil ?_
 refine fn_next ?_
 refine cw_seq ?_
 refine cw_seq ?_
 refine cw_reg ?_
 refine ry (y_mov rfl rfl) rfl rfl ?_
 refine ry (y_not rfl rfl) rfl rfl ?_
 refine reg_nil ?_
 refine fn_next ?_
 refine cw_condf rfl ?_
 refine cw_skip ?_
 refine fn_next ?_
 refine cw_seq ?_
 refine cw_reg ?_
 refine ry (y_mov rfl rfl) rfl rfl ?_
 refine ry (y_mov rfl rfl) rfl rfl ?_
 refine ry (y_mov rfl rfl) rfl rfl ?_
 refine reg_op (op_call (made_ok a h L A (a * h) cap _ s hl rfl hb (hr.below H11.base)) rfl kflaw43_16 ⟨rfl, rfl, rfl, trivial⟩) rfl rfl ?_
 rintro _ w13 ⟨g15, bl16, rfl, k12⟩
 have H14 := H11.call k12
 refine ry (y_mov rfl rfl) rfl rfl ?_
 refine ry (y_ext rfl rfl rfl) rfl rfl ?_
 refine ry (y_ext rfl rfl rfl) rfl rfl ?_
 refine ry (y_asg rfl rfl) rfl rfl ?_
 refine ry (y_asg rfl rfl) rfl rfl ?_
 refine reg_nil ?_
 refine fn_next ?_
 refine cw_seq ?_
 refine cw_seq ?_
 refine cw_reg ?_
 refine ry (y_mov rfl rfl) rfl rfl ?_
 refine ry (y_not rfl rfl) rfl rfl ?_
 refine reg_nil ?_
 refine fn_next ?_
 refine cw_condf rfl ?_
 refine cw_skip ?_
 refine fn_next ?_
 refine cw_seq ?_
 refine cw_reg ?_
 refine ry (y_mov rfl rfl) rfl rfl ?_
 refine ry (y_mov rfl rfl) rfl rfl ?_
 refine reg_op (op_call (dTo g15 a h (L) t _ (H14.rdg (i := 0) rfl)) rfl kflaw43_3 ⟨rfl, rfl, trivial⟩) rfl rfl ?_
 rintro _ w18 ⟨A20, c21, rfl, k17⟩
 have H19 := H14.call k17
 refine ry (y_mov rfl rfl) rfl rfl ?_
 refine ry (y_ext rfl rfl rfl) rfl rfl ?_
 refine ry (y_ext rfl rfl rfl) rfl rfl ?_
 refine ry (y_asg rfl rfl) rfl rfl ?_
 refine ry (y_asg rfl rfl) rfl rfl ?_
 refine reg_nil ?_
 refine fn_next ?_
 refine cw_seq ?_
 refine cw_reg ?_
 refine ry (y_mov rfl rfl) rfl rfl ?_
 refine ry (y_mov rfl rfl) rfl rfl ?_
 refine ry (y_mov rfl rfl) rfl rfl ?_
 refine reg_op (op_call (dWithin g15 a h L t m _ (H19.rdg (i := 1) rfl)) rfl kflaw43_10 ⟨rfl, rfl, rfl, trivial⟩) rfl rfl ?_
 rintro _ w23 ⟨A25, c26, rfl, k22⟩
 have H24 := H19.call k22
 refine ry (y_mov rfl rfl) rfl rfl ?_
 refine ry (y_ext rfl rfl rfl) rfl rfl ?_
 refine ry (y_ext rfl rfl rfl) rfl rfl ?_
 refine ry (y_asg rfl rfl) rfl rfl ?_
 refine ry (y_asg rfl rfl) rfl rfl ?_
 refine reg_nil ?_
 refine fn_next ?_
 refine cw_seq ?_
 refine cw_reg ?_
 refine ry (y_mov rfl rfl) rfl rfl ?_
 refine ry (y_mov rfl rfl) rfl rfl ?_
 refine reg_op (op_call (dFar_ok g15 a h L t _ (H24.rdg (i := 2) rfl) hno) rfl kflaw43_11 ⟨rfl, rfl, trivial⟩) rfl rfl ?_
 rintro _ w28 ⟨rfl, e27⟩
 have H29 := H24.ext e27
 refine ry (y_mov rfl rfl) rfl rfl ?_
 refine ry (y_ext rfl rfl rfl) rfl rfl ?_
 refine ry (y_ext rfl rfl rfl) rfl rfl ?_
 refine ry (y_ext rfl rfl rfl) rfl rfl ?_
 refine ry (y_ext rfl rfl rfl) rfl rfl ?_
 refine reg_op (op_alloc H29 rfl kflaw43_8) rfl rfl ?_
 rintro _ w31 ⟨b30, rfl, H32⟩
 refine reg_op (op_st (i := 0) (vs := [.int _ _, .int _ _]) H32 rfl rfl rfl rfl rfl kflaw43_9 rfl rfl rfl) rfl rfl ?_
 rintro _ w33 H34
 refine ry (y_asg rfl rfl) rfl rfl ?_
 refine ry (y_asg rfl rfl) rfl rfl ?_
 refine ry (y_asg rfl rfl) rfl rfl ?_
 refine reg_nil ?_
 refine fn_next ?_
 refine cw_seq ?_
 refine cw_reg ?_
 refine ry (y_ldb (i := 4) (cs := [_, _, _]) H34 rfl rfl kflaw43_19 rfl rfl) rfl rfl ?_
 refine ry (y_mov rfl rfl) rfl rfl ?_
 refine reg_op (op_call (mTo a h A cap L t _ s (hr.below H34.base) hl) rfl kflaw43_22 ⟨rfl, rfl, trivial⟩) rfl rfl ?_
 rintro _ w36 ⟨A38, c39, rfl, k35⟩
 have H37 := H34.call k35
 refine ry (y_asg rfl rfl) rfl rfl ?_
 refine reg_nil ?_
 refine fn_next ?_
 refine cw_seq ?_
 refine cw_reg ?_
 refine reg_op (op_lit (parts := []) (vs := []) (cs := []) H37 rfl Try.underlying35 kflaw43_23 rfl trivial rfl rfl) rfl rfl ?_
 rintro _ w41 ⟨b40, rfl, H42⟩
 have H43 := H42.asrow (m := 0) (size := 2) rfl (by decide)
 refine ry (y_asg rfl rfl) rfl rfl ?_
 refine reg_nil ?_
 refine fn_next ?_
 refine cw_seq ?_
 refine cw_reg ?_
 refine ry (y_asg rfl rfl) rfl rfl ?_
 refine reg_nil ?_
 refine fn_next ?_
 refine cw_seq ?_
 refine cw_seq ?_
 refine cw_reg ?_
 refine ry (y_asg rfl rfl) rfl rfl ?_
 refine reg_nil ?_
 refine fn_next ?_
 refine cw_block ?_
 refine cw_loopJ [23, 24, 25, 71, 72, 73, 74, 75, 76, 77, 78, 79, 80, 81, 82, 83, 84, 85, 86, 87, 88, 89, 90, 91, 92, 93, 94, 95, 96, 97, 98, 99, 100, 101, 102, 103, 104, 105, 106, 107, 108, 109] (fun M wl ml => ∃ (i : Nat) (A' : Option Addr) (cap' : Nat), M = [(25, .int .i64 (i : Int)), (24, .int .i64 ((amx (toL L a t (a * h)) i : Nat) : Int)), (23, .slice A' (selN (nearW (toL L a t (a * h)) m) i) cap')] ∧ HS w wl [Ob.row A' (selN (nearW (toL L a t (a * h)) m) i) cap' (vi .i64 (selC a (nearW (toL L a t (a * h)) m) i)) 46 2, Ob.row A20 (a * h) c21 (vi .i64 (toL (L) a t (a * h))) 2 1, Ob.row A25 (selN (nearW (toL L a t (a * h)) m) (a * h)) c26 (vi .i64 (selC a (nearW (toL L a t (a * h)) m) (a * h))) 46 2, Ob.row A38 (a * h) c39 (vi .i64 (toL L a t (a * h))) 2 1, Ob.blk b30 [.int .i64 ((amx (toL L a t (a * h)) (a * h) % a : Nat) : Int), .int .i64 ((amx (toL L a t (a * h)) (a * h) / a : Nat) : Int)] 46] ∧ (i ≤ a * h) ∧ ml = a * h - i) ⟨0, _, _, rfl, (H43.pick (m := [_, _, _, _, _]) [0, 4, 3, 1, 2] rfl (by decide)), Nat.zero_le _, rfl⟩ ⟨rfl, rfl, rfl, trivial⟩ ?_
 rintro M w44 m46 ⟨i, A', cap', rfl, H45, hp0, rfl⟩
 refine cw_seq ?_
 refine cw_seq ?_
 refine cw_reg ?_
 refine ry (y_mov rfl rfl) rfl rfl ?_
 refine ry (y_mov rfl rfl) rfl rfl ?_
 refine ry (y_len rfl Try.underlying22 rfl) rfl rfl ?_
 refine ry (y_lss rfl rfl rfl) rfl rfl ?_
 refine reg_nil ?_
 refine fn_next ?_
 refine cw_condd rfl (fun h47 => ?_) (fun h47 => ?_)
 ·skip
  have hi : i < a * h := by omega
  have hami := amx_lt' (L := toL L a t (a * h)) hi
  have gi := vi_get (k := .i64) (zs := (toL L a t (a * h))) (i := i) (by first | (rw [toL_len]; omega) | omega)
  have gm := vi_get (k := .i64) (zs := (toL L a t (a * h))) (i := amx (toL L a t (a * h)) i) (by first | (rw [toL_len]; exact amx_lt' hi) | omega)
  refine cw_skip ?_
  refine fn_next ?_
  refine cw_seq ?_
  refine cw_block ?_
  refine cw_seq ?_
  refine cw_seq ?_
  refine cw_reg ?_
  refine ry (y_mov rfl rfl) rfl rfl ?_
  refine ry (y_mov rfl rfl) rfl rfl ?_
  refine ry (y_iar (H45.rd (i := 3) rfl) rfl rfl rfl kflaw43_17 (rfl) (by omega) (Nat.mul_one _) (gi)) rfl rfl ?_
  refine ry (y_ldr (H45.rd (i := 3) rfl) rfl rfl kflaw43_18 (gi)) rfl rfl ?_
  refine ry (y_geq rfl rfl rfl) rfl rfl ?_
  refine ry (y_mov rfl rfl) rfl rfl ?_
  refine rg_splitd (d := 82) rfl (fun h48 => ?_) (fun h48 => ?_)
  ·skip
   have c1 := h48
   refine rgy (y_mov rfl rfl) rfl rfl rfl rfl ?_
   refine rgy (y_mov rfl rfl) rfl rfl rfl rfl ?_
   refine rgy (y_iar (H45.rd (i := 3) rfl) rfl rfl rfl kflaw43_17 (rfl) (by omega) (Nat.mul_one _) (gi)) rfl rfl rfl rfl ?_
   refine rgy (y_ldr (H45.rd (i := 3) rfl) rfl rfl kflaw43_18 (gi)) rfl rfl rfl rfl ?_
   refine rgy (y_mov rfl rfl) rfl rfl rfl rfl ?_
   refine rgy (y_leq rfl rfl rfl) rfl rfl rfl rfl ?_
   refine ry (y_pick rfl rfl rfl) rfl rfl ?_
   refine reg_nil ?_
   refine fn_next ?_
   refine cw_condd rfl (fun h49 => ?_) (fun h49 => ?_)
   ·skip
    have hp : (nearW (toL L a t (a * h)) m) i = true := decide_eq_true ⟨c1, h49⟩
    refine cw_draw H45 [0, 1, 2, 3, 4, 5, 6, 7] [8, 9, 10] (fun X HX => (HX.pick (m := [_, _, _, _]) [1, 2, 3, 4] rfl (by decide))) (by kernel_rfl) (by kernel_rfl) (by rfl) ?_
    simp only [pick, List.getElem?_cons_succ, List.getElem?_cons_zero]
    refine hk_y (fun Y HY => y_mov rfl rfl) rfl rfl ?_
    refine hk_y (fun Y HY => y_mov rfl rfl) rfl rfl ?_
    refine hk_y (fun Y HY => y_mov rfl rfl) rfl rfl ?_
    refine hk_y (fun Y HY => y_rem rfl rfl rfl (by omega) (remN)) rfl rfl ?_
    refine hk_y (fun Y HY => y_mov rfl rfl) rfl rfl ?_
    refine hk_y (fun Y HY => y_mov rfl rfl) rfl rfl ?_
    refine hk_y (fun Y HY => y_quo rfl rfl rfl (by omega) (quoN (by omega))) rfl rfl ?_
    refine hk_y (fun Y HY => y_build (places := [(0, 1), (1, 1)]) (parts := [(0, _), (1, _)]) (vs := [(0, _), (1, _)]) (cs := [.int _ _, .int _ _]) rfl Try.underlying46 (by kernel_rfl) kflaw43_8 rfl ⟨rfl, rfl, trivial⟩ rfl) rfl rfl ?_
    refine hk_nil ?_
    intro w50 H51
    refine tv_op (op_lit (parts := [(0, _)]) (vs := [(0, _)]) (cs := [.int _ _, .int _ _]) H51 rfl Try.underlying35 kflaw43_23 rfl ⟨rfl, trivial⟩ rfl rfl) rfl rfl ?_
    rintro _ w53 ⟨b52, rfl, H54⟩
    have H55 := H54.asrow (m := 1) (size := 2) rfl (by decide)
    refine ⟨(H55.pick (m := [_, _, _, _]) [2, 3, 4, 5] rfl (by decide)), fun w56 e58 => ?_⟩
    have H57 := H55.ext e58
    refine tv_op (op_app (i := 1) H57 rfl rfl rfl rfl (H57.rd (i := 0) rfl) (rfl) (rfl) Try.underlying35 kflaw43_24 rfl rfl (by have := selN_le (p := (nearW (toL L a t (a * h)) m)) i; unfold maxLen; omega) (by have := selN_le (p := (nearW (toL L a t (a * h)) m)) i; omega)) rfl rfl ?_
    rintro _ w61 ⟨A59, c60, rfl, H62⟩
    refine ⟨(H62.pick (m := [_, _, _, _]) [2, 3, 4, 5] rfl (by decide)), fun w63 e65 => ?_⟩
    have H64 := H62.ext e65
    refine tv_op (Yd.op (y_asg rfl rfl)) rfl rfl ?_
    rintro _ _ ⟨rfl, rfl⟩
    refine ⟨(H64.pick (m := [_, _, _, _]) [2, 3, 4, 5] rfl (by decide)), fun w66 e68 => ?_⟩
    have H67 := H64.ext e68
    refine tv_nil ?_
    refine fn_next ?_
    refine cw_seq ?_
    refine cw_draw H67 [0, 1, 2, 3, 4, 5, 6, 7, 8] [] (fun X HX => HX) (by kernel_rfl) (by kernel_rfl) (by rfl) ?_
    simp only [pick, List.getElem?_cons_succ, List.getElem?_cons_zero]
    refine hk_y (fun Y HY => y_mov rfl rfl) rfl rfl ?_
    refine hk_y (fun Y HY => y_mov rfl rfl) rfl rfl ?_
    refine hk_y (fun Y HY => y_iar (HY.rd (i := 4) rfl) rfl rfl rfl kflaw43_17 (rfl) (by omega) (Nat.mul_one _) (gi)) rfl rfl ?_
    refine hk_y (fun Y HY => y_ldr (HY.rd (i := 4) rfl) rfl rfl kflaw43_18 (gi)) rfl rfl ?_
    refine hk_y (fun Y HY => y_mov rfl rfl) rfl rfl ?_
    refine hk_y (fun Y HY => y_mov rfl rfl) rfl rfl ?_
    refine hk_y (fun Y HY => y_iar (HY.rd (i := 4) rfl) rfl rfl rfl kflaw43_17 (rfl) (by omega) (Nat.mul_one _) (gm)) rfl rfl ?_
    refine hk_y (fun Y HY => y_ldr (HY.rd (i := 4) rfl) rfl rfl kflaw43_18 (gm)) rfl rfl ?_
    refine hk_y (fun Y HY => y_gtr rfl rfl rfl) rfl rfl ?_
    refine hk_nil ?_
    intro w69 H70
    refine tv_nil ?_
    refine fn_next ?_
    refine cw_condd rfl (fun hg => ?_) (fun hg => ?_)
    ·skip
     refine cw_reg ?_
     refine ry (y_mov rfl rfl) rfl rfl ?_
     refine ry (y_asg rfl rfl) rfl rfl ?_
     refine reg_nil ?_
     refine fn_block ?_
     refine fn_next ?_
     refine cw_reg ?_
     refine ry (y_mov rfl rfl) rfl rfl ?_
     refine ry (y_add rfl rfl rfl (wi (by omega))) rfl rfl ?_
     refine ry (y_asg rfl rfl) rfl rfl ?_
     refine reg_nil ?_
     first | rw [vi_two, selC_t hp, selN_t hp] at H70 | rw [selC_f hp, selN_f hp] at H70
     refine fn_roundJ ⟨i + 1, _, _, rfl, (H70.pick (m := [_, _, _, _, _]) [1, 2, 3, 4, 5] rfl (by decide)), by omega, rfl⟩ ⟨rfl, by first | (rw [← amx_t hg]; rfl) | (rw [← amx_f hg]; rfl), by first | rfl | (rw [← selN_t hp]; rfl) | (rw [← selN_f hp]; rfl), trivial⟩ (by omega) (by repeat (first | exact kp_refl | refine kp_app rfl rfl ?_ | refine kp_cons rfl ?_)) rfl
    ·skip
     refine cw_skip ?_
     refine fn_block ?_
     refine fn_next ?_
     refine cw_reg ?_
     refine ry (y_mov rfl rfl) rfl rfl ?_
     refine ry (y_add rfl rfl rfl (wi (by omega))) rfl rfl ?_
     refine ry (y_asg rfl rfl) rfl rfl ?_
     refine reg_nil ?_
     first | rw [vi_two, selC_t hp, selN_t hp] at H70 | rw [selC_f hp, selN_f hp] at H70
     refine fn_roundJ ⟨i + 1, _, _, rfl, (H70.pick (m := [_, _, _, _, _]) [1, 2, 3, 4, 5] rfl (by decide)), by omega, rfl⟩ ⟨rfl, by first | (rw [← amx_t hg]; rfl) | (rw [← amx_f hg]; rfl), by first | rfl | (rw [← selN_t hp]; rfl) | (rw [← selN_f hp]; rfl), trivial⟩ (by omega) (by repeat (first | exact kp_refl | refine kp_app rfl rfl ?_ | refine kp_cons rfl ?_)) rfl
   ·skip
    have hp : ¬ (nearW (toL L a t (a * h)) m) i = true := fun q => h49 (of_decide_eq_true q).2
    refine cw_skip ?_
    refine fn_next ?_
    refine cw_seq ?_
    refine cw_draw H45 [0, 1, 2, 3, 4, 5, 6, 7, 8] [] (fun X HX => HX) (by kernel_rfl) (by kernel_rfl) (by rfl) ?_
    simp only [pick, List.getElem?_cons_succ, List.getElem?_cons_zero]
    refine hk_y (fun Y HY => y_mov rfl rfl) rfl rfl ?_
    refine hk_y (fun Y HY => y_mov rfl rfl) rfl rfl ?_
    refine hk_y (fun Y HY => y_iar (HY.rd (i := 3) rfl) rfl rfl rfl kflaw43_17 (rfl) (by omega) (Nat.mul_one _) (gi)) rfl rfl ?_
    refine hk_y (fun Y HY => y_ldr (HY.rd (i := 3) rfl) rfl rfl kflaw43_18 (gi)) rfl rfl ?_
    refine hk_y (fun Y HY => y_mov rfl rfl) rfl rfl ?_
    refine hk_y (fun Y HY => y_mov rfl rfl) rfl rfl ?_
    refine hk_y (fun Y HY => y_iar (HY.rd (i := 3) rfl) rfl rfl rfl kflaw43_17 (rfl) (by omega) (Nat.mul_one _) (gm)) rfl rfl ?_
    refine hk_y (fun Y HY => y_ldr (HY.rd (i := 3) rfl) rfl rfl kflaw43_18 (gm)) rfl rfl ?_
    refine hk_y (fun Y HY => y_gtr rfl rfl rfl) rfl rfl ?_
    refine hk_nil ?_
    intro w72 H73
    refine tv_nil ?_
    refine fn_next ?_
    refine cw_condd rfl (fun hg => ?_) (fun hg => ?_)
    ·skip
     refine cw_reg ?_
     refine ry (y_mov rfl rfl) rfl rfl ?_
     refine ry (y_asg rfl rfl) rfl rfl ?_
     refine reg_nil ?_
     refine fn_block ?_
     refine fn_next ?_
     refine cw_reg ?_
     refine ry (y_mov rfl rfl) rfl rfl ?_
     refine ry (y_add rfl rfl rfl (wi (by omega))) rfl rfl ?_
     refine ry (y_asg rfl rfl) rfl rfl ?_
     refine reg_nil ?_
     first | rw [vi_two, selC_t hp, selN_t hp] at H73 | rw [selC_f hp, selN_f hp] at H73
     refine fn_roundJ ⟨i + 1, _, _, rfl, H73, by omega, rfl⟩ ⟨rfl, by first | (rw [← amx_t hg]; rfl) | (rw [← amx_f hg]; rfl), by first | rfl | (rw [← selN_t hp]; rfl) | (rw [← selN_f hp]; rfl), trivial⟩ (by omega) (by repeat (first | exact kp_refl | refine kp_app rfl rfl ?_ | refine kp_cons rfl ?_)) rfl
    ·skip
     refine cw_skip ?_
     refine fn_block ?_
     refine fn_next ?_
     refine cw_reg ?_
     refine ry (y_mov rfl rfl) rfl rfl ?_
     refine ry (y_add rfl rfl rfl (wi (by omega))) rfl rfl ?_
     refine ry (y_asg rfl rfl) rfl rfl ?_
     refine reg_nil ?_
     first | rw [vi_two, selC_t hp, selN_t hp] at H73 | rw [selC_f hp, selN_f hp] at H73
     refine fn_roundJ ⟨i + 1, _, _, rfl, H73, by omega, rfl⟩ ⟨rfl, by first | (rw [← amx_t hg]; rfl) | (rw [← amx_f hg]; rfl), by first | rfl | (rw [← selN_t hp]; rfl) | (rw [← selN_f hp]; rfl), trivial⟩ (by omega) (by repeat (first | exact kp_refl | refine kp_app rfl rfl ?_ | refine kp_cons rfl ?_)) rfl
  ·skip
   have hp : ¬ (nearW (toL L a t (a * h)) m) i = true := fun q => h48 (of_decide_eq_true q).1
   refine rg_off rfl rfl rfl rfl rfl ?_
   refine rg_off rfl rfl rfl rfl rfl ?_
   refine rg_off rfl rfl rfl rfl rfl ?_
   refine rg_off rfl rfl rfl rfl rfl ?_
   refine rg_off rfl rfl rfl rfl rfl ?_
   refine rg_off rfl rfl rfl rfl rfl ?_
   refine ry (y_pick rfl rfl rfl) rfl rfl ?_
   refine reg_nil ?_
   refine fn_next ?_
   refine cw_condf rfl ?_
   refine cw_skip ?_
   refine fn_next ?_
   refine cw_seq ?_
   refine cw_draw H45 [0, 1, 2, 3, 4, 5, 6, 7, 8] [] (fun X HX => HX) (by kernel_rfl) (by kernel_rfl) (by rfl) ?_
   simp only [pick, List.getElem?_cons_succ, List.getElem?_cons_zero]
   refine hk_y (fun Y HY => y_mov rfl rfl) rfl rfl ?_
   refine hk_y (fun Y HY => y_mov rfl rfl) rfl rfl ?_
   refine hk_y (fun Y HY => y_iar (HY.rd (i := 3) rfl) rfl rfl rfl kflaw43_17 (rfl) (by omega) (Nat.mul_one _) (gi)) rfl rfl ?_
   refine hk_y (fun Y HY => y_ldr (HY.rd (i := 3) rfl) rfl rfl kflaw43_18 (gi)) rfl rfl ?_
   refine hk_y (fun Y HY => y_mov rfl rfl) rfl rfl ?_
   refine hk_y (fun Y HY => y_mov rfl rfl) rfl rfl ?_
   refine hk_y (fun Y HY => y_iar (HY.rd (i := 3) rfl) rfl rfl rfl kflaw43_17 (rfl) (by omega) (Nat.mul_one _) (gm)) rfl rfl ?_
   refine hk_y (fun Y HY => y_ldr (HY.rd (i := 3) rfl) rfl rfl kflaw43_18 (gm)) rfl rfl ?_
   refine hk_y (fun Y HY => y_gtr rfl rfl rfl) rfl rfl ?_
   refine hk_nil ?_
   intro w75 H76
   refine tv_nil ?_
   refine fn_next ?_
   refine cw_condd rfl (fun hg => ?_) (fun hg => ?_)
   ·skip
    refine cw_reg ?_
    refine ry (y_mov rfl rfl) rfl rfl ?_
    refine ry (y_asg rfl rfl) rfl rfl ?_
    refine reg_nil ?_
    refine fn_block ?_
    refine fn_next ?_
    refine cw_reg ?_
    refine ry (y_mov rfl rfl) rfl rfl ?_
    refine ry (y_add rfl rfl rfl (wi (by omega))) rfl rfl ?_
    refine ry (y_asg rfl rfl) rfl rfl ?_
    refine reg_nil ?_
    first | rw [vi_two, selC_t hp, selN_t hp] at H76 | rw [selC_f hp, selN_f hp] at H76
    refine fn_roundJ ⟨i + 1, _, _, rfl, H76, by omega, rfl⟩ ⟨rfl, by first | (rw [← amx_t hg]; rfl) | (rw [← amx_f hg]; rfl), by first | rfl | (rw [← selN_t hp]; rfl) | (rw [← selN_f hp]; rfl), trivial⟩ (by omega) (by repeat (first | exact kp_refl | refine kp_app rfl rfl ?_ | refine kp_cons rfl ?_)) rfl
   ·skip
    refine cw_skip ?_
    refine fn_block ?_
    refine fn_next ?_
    refine cw_reg ?_
    refine ry (y_mov rfl rfl) rfl rfl ?_
    refine ry (y_add rfl rfl rfl (wi (by omega))) rfl rfl ?_
    refine ry (y_asg rfl rfl) rfl rfl ?_
    refine reg_nil ?_
    first | rw [vi_two, selC_t hp, selN_t hp] at H76 | rw [selC_f hp, selN_f hp] at H76
    refine fn_roundJ ⟨i + 1, _, _, rfl, H76, by omega, rfl⟩ ⟨rfl, by first | (rw [← amx_t hg]; rfl) | (rw [← amx_f hg]; rfl), by first | rfl | (rw [← selN_t hp]; rfl) | (rw [← selN_f hp]; rfl), trivial⟩ (by omega) (by repeat (first | exact kp_refl | refine kp_app rfl rfl ?_ | refine kp_cons rfl ?_)) rfl
 ·skip
  have hie : i = a * h := by omega
  subst hie
  refine cw_exit ?_
  refine fn_then_exit (fn_then_exit (fn_block_exit ?_))
  refine fn_next ?_
  refine cw_seq ?_
  refine cw_seq ?_
  refine cw_reg ?_
  refine ry (y_mov rfl rfl) rfl rfl ?_
  refine ry (y_neq rfl rfl rfl) rfl rfl ?_
  refine ry (y_mov rfl rfl) rfl rfl ?_
  refine rgy (y_mov rfl rfl) rfl rfl rfl rfl ?_
  refine rgy (y_neq rfl rfl rfl) rfl rfl rfl rfl ?_
  refine ry (y_pick rfl rfl rfl) rfl rfl ?_
  refine ry (y_mov rfl rfl) rfl rfl ?_
  refine rgy (y_mov rfl rfl) rfl rfl rfl rfl ?_
  refine rgy (y_neq rfl rfl rfl) rfl rfl rfl rfl ?_
  refine ry (y_pick rfl rfl rfl) rfl rfl ?_
  refine ry (y_mov rfl rfl) rfl rfl ?_
  refine rgy (y_mov rfl rfl) rfl rfl rfl rfl ?_
  refine rgy (y_mov rfl rfl) rfl rfl rfl rfl ?_
  refine rg_on rfl rfl rfl (op_call (ret_v (v := .bool true) (refSame_any _ (a * h) _ (toL L a t (a * h)) _ (a * h) _ (toL L a t (a * h)) _ (H45.rd (i := 1) rfl) (toL_len) (H45.rd (i := 3) rfl) (toL_len) (by omega)) (by rw [decide_eq_true (rfl)])) rfl kflaw43_4 ⟨rfl, rfl, trivial⟩) rfl ?_
  rintro _ w79 ⟨rfl, e78⟩
  have H80 := H45.ext e78
  refine rgy (y_not rfl rfl) rfl rfl rfl rfl ?_
  refine ry (y_pick rfl rfl rfl) rfl rfl ?_
  refine ry (y_mov rfl rfl) rfl rfl ?_
  refine rgy (y_mov rfl rfl) rfl rfl rfl rfl ?_
  refine rgy (y_mov rfl rfl) rfl rfl rfl rfl ?_
  refine rg_on rfl rfl rfl (op_call (sameCells _ (selN (nearW (toL L a t (a * h)) m) (a * h)) _ _ _ (selC a (nearW (toL L a t (a * h)) m) (a * h)) _ (H80.rd (i := 2) rfl) (H80.rd (i := 0) rfl) (selC_len _) (by have := selN_le (p := (nearW (toL L a t (a * h)) m)) (a * h); omega)) rfl kflaw43_25 ⟨rfl, rfl, trivial⟩) rfl ?_
  rintro _ w82 ⟨rfl, e81⟩
  have H83 := H80.ext e81
  refine rgy (y_not rfl rfl) rfl rfl rfl rfl ?_
  refine ry (y_pick rfl rfl rfl) rfl rfl ?_
  refine ry (y_mov rfl rfl) rfl rfl ?_
  refine rgy (y_mov rfl rfl) rfl rfl rfl rfl ?_
  refine rgy (y_mov rfl rfl) rfl rfl rfl rfl ?_
  refine rgy (y_iar (i := 0) (H83.rd (i := 3) rfl) rfl rfl rfl kflaw43_17 (rfl) (by omega) (Nat.mul_one _) (g0)) rfl rfl rfl rfl ?_
  refine rgy (y_ldr (H83.rd (i := 3) rfl) rfl rfl kflaw43_18 (g0)) rfl rfl rfl rfl ?_
  refine rgy (yv (congrArg Value.bool (decide_eq_true (by rw [hw0]; exact toF_pos hno))) (y_geq rfl rfl rfl)) rfl rfl rfl rfl ?_
  refine rgy (y_bneq rfl Try.underlying4 rfl rfl) rfl rfl rfl rfl ?_
  refine ry (y_pick rfl rfl rfl) rfl rfl ?_
  refine reg_nil ?_
  refine fn_next ?_
  refine cw_condf rfl ?_
  refine cw_skip ?_
  refine fn_next ?_
  refine cw_seq ?_
  refine cw_seq ?_
  refine cw_reg ?_
  refine ry (y_mov rfl rfl) rfl rfl ?_
  refine ry (y_not rfl rfl) rfl rfl ?_
  refine reg_nil ?_
  refine fn_next ?_
  refine cw_condf rfl ?_
  refine cw_skip ?_
  refine fn_next ?_
  refine cw_seq ?_
  refine cw_draw H83 [0, 1, 2, 3, 4, 5, 6, 7, 8, 9, 10, 11, 12, 13, 14, 15, 16, 17] [] (fun X HX => HX) (by kernel_rfl) (by kernel_rfl) (by rfl) ?_
  simp only [pick, List.getElem?_cons_succ, List.getElem?_cons_zero]
  refine hk_y (fun Y HY => y_mov rfl rfl) rfl rfl ?_
  refine hk_y (fun Y HY => y_mov rfl rfl) rfl rfl ?_
  refine hk_y (fun Y HY => y_mov rfl rfl) rfl rfl ?_
  refine hk_y (fun Y HY => y_iar (HY.rd (i := 3) rfl) rfl rfl rfl kflaw43_17 (rfl) (by omega) (Nat.mul_one _) (gx)) rfl rfl ?_
  refine hk_y (fun Y HY => y_ldr (HY.rd (i := 3) rfl) rfl rfl kflaw43_18 (gx)) rfl rfl ?_
  refine hk_y (fun Y HY => yv (congrArg Value.bool (decide_eq_true (rfl))) (y_eql rfl rfl rfl)) rfl rfl ?_
  refine hk_y (fun Y HY => y_mov rfl rfl) rfl rfl ?_
  refine hk_on (qy_yd fun Y HY => y_ldb (i := 4) (cs := [_, _]) HY rfl rfl kflaw43_6 rfl rfl) rfl rfl rfl rfl ?_
  refine hk_on (qy_yd fun Y HY => y_mov rfl rfl) rfl rfl rfl rfl ?_
  refine hk_on (qy_yd fun Y HY => y_mov rfl rfl) rfl rfl rfl rfl ?_
  refine hk_on (qy_yd fun Y HY => y_rem rfl rfl rfl (by omega) (remN)) rfl rfl rfl rfl ?_
  refine hk_on (qy_yd fun Y HY => y_mov rfl rfl) rfl rfl rfl rfl ?_
  refine hk_on (qy_yd fun Y HY => y_mov rfl rfl) rfl rfl rfl rfl ?_
  refine hk_on (qy_yd fun Y HY => y_quo rfl rfl rfl (by omega) (quoN (by omega))) rfl rfl rfl rfl ?_
  refine hk_on (qy_yd fun Y HY => y_build (places := [(0, 1), (1, 1)]) (parts := [(0, _), (1, _)]) (vs := [(0, _), (1, _)]) (cs := [.int _ _, .int _ _]) rfl Try.underlying46 (by kernel_rfl) kflaw43_8 rfl ⟨rfl, rfl, trivial⟩ rfl) rfl rfl rfl rfl ?_
  refine hk_on (qy_yd fun Y HY => yv (congrArg Value.bool (decide_eq_true (rfl))) (y_seq (ks := [.i64, .i64]) (a := [((amx (toL L a t (a * h)) (a * h) % a : Nat) : Int), ((amx (toL L a t (a * h)) (a * h) / a : Nat) : Int)]) (b := [((amx (toL L a t (a * h)) (a * h) % a : Nat) : Int), ((amx (toL L a t (a * h)) (a * h) / a : Nat) : Int)]) rfl (.inl ⟨rfl, rfl⟩) kflaw43_12 rfl rfl rfl rfl rfl rfl rfl)) rfl rfl rfl rfl ?_
  refine hk_y (fun Y HY => y_pick rfl rfl rfl) rfl rfl ?_
  refine hk_y (fun Y HY => y_asg rfl rfl) rfl rfl ?_
  refine hk_nil ?_
  intro w84 H85
  refine tv_nil ?_
  refine fn_next ?_
  refine cw_ret ?_
  refine fn_ret1 rfl rfl ?_
  exact ⟨rfl, H85.base⟩

theorem distTo_all (a h : Int) (L : List Int) (A : Option Addr) (n cap : Nat) (t m : Int) (w : World) (ha : I6 a) (hh : I6 h) (hr : Rd w A (vi .i64 L)) (hl : L.length = n) : Ret Try.prog 7 [.int .i64 a, .int .i64 h, .slice A n cap, .int .i64 t, .int .i64 m] w (fun z w' => z = .bool true ∧ Below w.heap.size w w') := by
  by_cases hp : LandP a h (400 : Nat) L
  · obtain ⟨a, h, rfl, rfl, h1, h2, h3, h4, h5, h6, h7⟩ := LandP.nat hp
    obtain rfl : n = a * h := by omega
    by_cases hno : noS L t
    · exact distTo_n a h L A cap t m w h1 h2 h3 h4 h5 hr hl h7 hno
    · exact distTo_s a h L A cap t m w h1 h2 h3 h4 h5 hr hl h7 hno
  · exact distTo_no a h L A n cap t m w ha hh hr hl hp

theorem distTo_law (a : Int) (h : Int) (zs : List Int) (A2 : Option Addr) (n2 c2 : Nat) (t : Int) (m : Int) (W : World) (ba : I6 a) (bh : I6 h) (hzs : Ints .i64 W A2 n2 zs) (le2 : n2 ≤ c2) (mx2 : c2 ≤ maxLen) (wzs : ∀ z ∈ zs, I6 z) (bt : I6 t) (bm : I6 m) :
    Calls Try.prog 7 #[.int .i64 a, .int .i64 h, .slice A2 n2 c2, .int .i64 t, .int .i64 m] W fun e w' => e = .returned (.bool true) ∧ Below W.heap.size W w' := lawOf (distTo_all a h zs A2 n2 c2 t m W ba bh (Rd.of_ints hzs) hzs.len)

end Go.Proofs.Ytbhmkpnihgjlnaa
