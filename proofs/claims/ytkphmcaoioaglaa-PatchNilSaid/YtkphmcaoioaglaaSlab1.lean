/- Layer 8: what is only read. -/
import Derived.Test.YtkphmcaoioaglaaPlain8
set_option linter.unusedVariables false
set_option linter.unusedSimpArgs false
namespace Go.Proofs.Ytkphmcaoioaglaa
open Go Go.RowKit
theorem kfslab1_1 : oneB Try.prog 129 = true := by kernel_rfl
theorem kfslab1_2 : elB Try.prog 129 1 = true := by kernel_rfl
theorem kfslab1_3 : oneB Try.prog 21 = true := by kernel_rfl
theorem kfslab1_4 : callB Try.prog 88 = true := by kernel_rfl
theorem kfslab1_5 : callB Try.prog 120 = true := by kernel_rfl
theorem kfslab1_6 : callB Try.prog 82 = true := by kernel_rfl
theorem kfslab1_7 : callB Try.prog 83 = true := by kernel_rfl
theorem kfslab1_8 : concB Try.prog 120 = true := by kernel_rfl
theorem kfslab1_9 : (Try.prog.info? 124).bind (fun i => i.zero.map Value.cells) = some (List.toArray [(.int .i64 0), (.int .i64 0), .nilIface]) := by kernel_rfl
theorem kfslab1_10 : aggB Try.prog 24 4 = true := by kernel_rfl
theorem kfslab1_11 : fldB Try.prog 124 0 0 = true := by kernel_rfl
theorem kfslab1_12 : oneB Try.prog 2 = true := by kernel_rfl
theorem kfslab1_13 : fldB Try.prog 124 1 1 = true := by kernel_rfl
theorem kfslab1_14 : callB Try.prog 78 = true := by kernel_rfl
theorem kfslab1_15 : (Try.prog.info? 24).bind (fun i => i.zero.map Value.cells) = some (List.toArray [(.int .i64 0), (.int .i64 0), (.int .i64 0), (.int .i64 0)]) := by kernel_rfl
theorem kfslab1_16 : fldB Try.prog 26 0 0 = true := by kernel_rfl
theorem kfslab1_17 : fldB Try.prog 26 1 1 = true := by kernel_rfl
theorem kfslab1_18 : szB Try.prog 24 4 = true := by kernel_rfl
theorem kfslab1_19 : fldB Try.prog 124 2 2 = true := by kernel_rfl
theorem kfslab1_20 : oneB Try.prog 122 = true := by kernel_rfl
theorem kfslab1_21 : (Try.prog.info? 120).bind (·.zero) = some (.int .i32 0) := by kernel_rfl
theorem kfslab1_22 : (Try.prog.info? 68).bind (fun i => i.zero.map Value.cells) = some (List.toArray [(.int .i64 0), (.int .i64 0)]) := by kernel_rfl
theorem kfslab1_23 : concB Try.prog 129 = true := by kernel_rfl
theorem kfslab1_24 : (Try.prog.info? 129).bind (·.zero) = some (.slice none 0 0) := by kernel_rfl
theorem kfslab1_25 : methB Try.prog 120 "hachure/slab.at" 146 = true := by kernel_rfl
theorem kfslab1_26 : notPtrB Try.prog 120 = true := by kernel_rfl
theorem kfslab1_27 : callB Try.prog 146 = true := by kernel_rfl
theorem kfslab1_28 : szB Try.prog 68 2 = true := by kernel_rfl
theorem kfslab1_29 : aggB Try.prog 68 2 = true := by kernel_rfl
theorem kfslab1_30 : callB Try.prog 91 = true := by kernel_rfl
theorem kfslab1_31 : callB Try.prog 92 = true := by kernel_rfl
theorem kfslab1_32 : aggB Try.prog 26 2 = true := by kernel_rfl
theorem kfslab1_33 : callB Try.prog 90 = true := by kernel_rfl
theorem kfslab1_34 : callB Try.prog 84 = true := by kernel_rfl
theorem kfslab1_35 : methB Try.prog 129 "hachure/slab.at" 147 = true := by kernel_rfl
theorem kfslab1_36 : notPtrB Try.prog 129 = true := by kernel_rfl
theorem kfslab1_37 : callB Try.prog 147 = true := by kernel_rfl
theorem kfslab1_38 : (Try.prog.info? 2).map (fun i => (i.zero.map (·.cells.toList), i.size, i.bytes)) = some (some [(.int .i64 0)], 1, 8) := by kernel_rfl
theorem kfslab1_39 : elB Try.prog 32 1 = true := by kernel_rfl
theorem kfslab1_40 : szB Try.prog 2 1 = true := by kernel_rfl
theorem kfslab1_41 : aggB Try.prog 124 3 = true := by kernel_rfl
theorem kfslab1_42 : szB Try.prog 124 3 = true := by kernel_rfl
theorem kfslab1_43 : callB Try.prog 89 = true := by kernel_rfl
theorem kfslab1_44 : szB Try.prog 122 1 = true := by kernel_rfl
theorem bdec {p q : Prop} [Decidable p] [Decidable q] (h : p ↔ q) : Value.bool (decide p) = Value.bool (decide q) := by rw [decide_eq_decide.2 h]
theorem bfls {q : Prop} [Decidable q] (h : ¬ q) : Value.bool false = Value.bool (decide q) := by rw [decide_eq_false h]
theorem btru {q : Prop} [Decidable q] (h : q) : Value.bool true = Value.bool (decide q) := by rw [decide_eq_true h]
def cpT (V : List Int) (n i : Nat) : List Int := V.take i ++ List.replicate (n - i) 0
theorem cpT_zero {V : List Int} {n : Nat} : cpT V n 0 = List.replicate n 0 := by simp [cpT]
theorem cpT_full {V : List Int} {n : Nat} (h : V.length = n) : cpT V n n = V := by simp [cpT, ← h]
theorem cpT_len {V : List Int} {n i : Nat} (h : V.length = n) (hi : i ≤ n) : (cpT V n i).length = n := by simp [cpT]; omega
theorem cpT_set {V : List Int} {n i : Nat} (h : V.length = n) (hi : i < n) : (cpT V n i).set i (nth V i) = cpT V n (i + 1) := by
  unfold cpT
  have e : List.replicate (n - i) (0 : Int) = 0 :: List.replicate (n - (i + 1)) 0 := by rw [show n - i = (n - (i + 1)) + 1 by omega]; rfl
  have hl : (V.take i).length = i := by rw [List.length_take]; omega
  rw [e, List.set_append_right _ _ (by omega), hl, Nat.sub_self, List.set_cons_zero, take_succ_nth (by omega), List.append_assoc]; rfl
def atC (a h : Nat) (x y : Int) : Int := withinC x y x y a h
def atV (V : List Int) (a h : Nat) (x y : Int) : Int := if atC a h x y = 0 then nth V (y * a + x).toNat else 0
theorem atV_no {V : List Int} {a h : Nat} {x y : Int} (hw : ¬ atC a h x y = 0) : atV V a h x y = 0 := by unfold atV; rw [if_neg hw]
theorem atV_ok {V : List Int} {a h x y : Nat} (hw : atC a h x y = 0) : atV V a h x y = nth V (y * a + x) := by unfold atV; rw [if_pos hw]; congr 1
theorem cell_lt {a h x y : Nat} (hx : x < a) (hy : y < h) : y * a + x < a * h := by
  have : (y + 1) * a ≤ h * a := Nat.mul_le_mul_right _ hy
  rw [Nat.succ_mul, Nat.mul_comm h a] at this; omega
theorem at_nat {a h : Nat} {x y : Int} (p : sizeP a h) (hw : atC a h x y = 0) : ∃ p q : Nat, x = p ∧ y = q ∧ p < a ∧ q < h := by
  obtain ⟨p0, q0, p1, q1, h1, h2, h3, h4, _, _, _, _⟩ := within_nat p hw
  exact ⟨p0, q0, h1, h2, by omega, by omega⟩
theorem row_bd {a h x y : Nat} (p : sizeP a h) (hx : x < a) (hy : y < h) : (y : Int) * (a : Int) = ((y * a : Nat) : Int) ∧ y * a + x < a * h ∧ a * h ≤ 256 := ⟨by rw [Int.natCast_mul], cell_lt hx hy, p.mul.2⟩

set_option maxRecDepth 100000 in
theorem fill1_any (u : Int) (b : Nat) (A : Option Addr) (n cap : Nat) (V : List Int) (w : World) (hb : Rd w (some ⟨b, 0, none⟩) [.slice A n cap]) (h : Rd w A (vi .i32 V)) (hl : V.length = n) (h0 : 1 ≤ n) (hn : n ≤ 256) :
    Ret Try.prog 88 [.int .i32 u, pt (some ⟨b, 0, none⟩) 0] w (fun v w' => v = .bool (decide (u ≠ nth V 0)) ∧ Below w.heap.size w w') := by
  have hg0 := vi_get (k := .i32) (zs := V) (i := 0) (by omega)
  refine ret_enter Try.func88 rfl rfl rfl ?_
  have H0 := HS.start w
  refine cw_seq ?_
  refine cw_reg ?_
  refine ry (y_asg rfl rfl) rfl rfl ?_
  refine reg_nil ?_
  refine fn_next ?_
  refine cw_seq ?_
  refine cw_reg ?_
  refine ry (y_mov rfl rfl) rfl rfl ?_
  refine ry (y_ldr (hb.below H0.base) rfl rfl kfslab1_1 (rfl)) rfl rfl ?_
  refine ry (y_iar (i := 0) (h.below H0.base) rfl rfl rfl kfslab1_2 (rfl) (by omega) (Nat.mul_one _) (hg0)) rfl rfl ?_
  refine ry (y_ldr (h.below H0.base) rfl rfl kfslab1_3 (hg0)) rfl rfl ?_
  refine ry (y_neq rfl rfl rfl) rfl rfl ?_
  refine ry (y_asg rfl rfl) rfl rfl ?_
  refine reg_nil ?_
  refine fn_next ?_
  refine cw_ret ?_
  refine fn_ret1 rfl rfl ?_
  exact ⟨rfl, H0.base⟩

set_option maxRecDepth 100000 in
theorem indexF_any (b : Nat) (A : Option Addr) (n cap : Nat) (V : List Int) (w : World) (hb : Rd w (some ⟨b, 0, none⟩) [.slice A n cap]) (h : Rd w A (vi .i32 V)) (hl : V.length = n) (h0 : 1 ≤ n) (hn : n ≤ 256) :
    Ret Try.prog 120 [.slice A n cap, .func (.func 88) #[] #[pt (some ⟨b, 0, none⟩) 0]] w (fun v w' => v = .int .i64 (ixNe V n) ∧ Below w.heap.size w w') := by
  refine ret_enter Try.func120 rfl rfl rfl ?_
  have H0 := HS.start w
  refine cw_seq ?_
  refine cw_reg ?_
  refine ry (y_asg rfl rfl) rfl rfl ?_
  refine reg_nil ?_
  refine fn_next ?_
  refine cw_seq ?_
  refine cw_seq ?_
  refine cw_reg ?_
  refine ry (y_mov rfl rfl) rfl rfl ?_
  refine ry (y_len rfl Try.underlying129 rfl) rfl rfl ?_
  refine ry (y_mov rfl rfl) rfl rfl ?_
  refine reg_nil ?_
  refine fn_next ?_
  refine cw_block ?_
  refine cw_loopJ [4, 5, 8, 9, 10, 11, 12, 13, 14, 15, 16, 17, 18] (fun M wl ml => ∃ (i : Nat), M = [(8, .int .i64 (i : Int))] ∧ HS w wl [] ∧ (i ≤ n) ∧ (Hid (∀ j, j < i → nth V j = nth V 0)) ∧ ml = n - i) ⟨0, rfl, H0, Nat.zero_le _, Lib.hid (fun j hj => absurd hj (Nat.not_lt_zero _)), rfl⟩ ⟨rfl, trivial⟩ ?_
  rintro M w1 m3 ⟨i, rfl, H2, hp0, hp1, rfl⟩
  refine cw_seq ?_
  refine cw_reg ?_
  refine ry (y_lss rfl rfl rfl) rfl rfl ?_
  refine reg_nil ?_
  refine fn_next ?_
  refine cw_seq ?_
  refine cw_condd rfl (fun h4 => ?_) (fun h4 => ?_)
  · skip
    have hgi := vi_get (k := .i32) (zs := V) (i := i) (by omega)
    refine cw_skip ?_
    refine fn_next ?_
    refine cw_seq ?_
    refine cw_block ?_
    refine cw_seq ?_
    refine cw_reg ?_
    refine ry (y_mov rfl rfl) rfl rfl ?_
    refine ry (y_asg rfl rfl) rfl rfl ?_
    refine reg_nil ?_
    refine fn_next ?_
    refine cw_seq ?_
    refine cw_reg ?_
    refine ry (y_mov rfl rfl) rfl rfl ?_
    refine ry (y_mov rfl rfl) rfl rfl ?_
    refine ry (y_mov rfl rfl) rfl rfl ?_
    refine ry (y_iar (h.below H2.base) rfl rfl rfl kfslab1_2 (rfl) (by omega) (Nat.mul_one _) (hgi)) rfl rfl ?_
    refine ry (y_ldr (h.below H2.base) rfl rfl kfslab1_3 (hgi)) rfl rfl ?_
    refine reg_op (op_callv (fs := []) (vs := [_]) (cs := [_]) (fill1_any (nth V i) b A n cap V _ (hb.below H2.base) (h.below H2.base) hl h0 hn) rfl kfslab1_4 rfl ⟨rfl, trivial⟩) rfl rfl ?_
    rintro _ w6 ⟨rfl, e5⟩
    have H7 := H2.ext e5
    refine reg_nil ?_
    refine fn_next ?_
    refine cw_condd rfl (fun hne => ?_) (fun hne => ?_)
    · skip
      refine cw_seq ?_
      refine cw_reg ?_
      refine ry (y_mov rfl rfl) rfl rfl ?_
      refine ry (y_asg rfl rfl) rfl rfl ?_
      refine reg_nil ?_
      refine fn_next ?_
      refine cw_ret ?_
      refine fn_block_ret (fn_then_ret (fn_then_ret (fn_block_ret (fn_then_ret ?_))))
      refine fn_ret1 rfl rfl ?_
      rw [ixNe_at hp1.out (by omega) hne]
      exact ⟨rfl, H7.base⟩
    · skip
      refine cw_skip ?_
      refine fn_block ?_
      refine fn_next ?_
      refine cw_reg ?_
      refine ry (y_add rfl rfl rfl (wi (by omega))) rfl rfl ?_
      refine ry (y_mov rfl rfl) rfl rfl ?_
      refine reg_nil ?_
      refine fn_roundJ ⟨i + 1, rfl, H7, by omega, Lib.hid (fun j hj => (Nat.lt_or_eq_of_le (Nat.le_of_lt_succ hj)).elim (hp1.out j) (fun e => e ▸ Classical.not_not.1 hne)), rfl⟩ ⟨rfl, trivial⟩ (by omega) (by repeat (first | exact kp_refl | refine kp_app rfl rfl ?_ | refine kp_cons rfl ?_)) rfl
  · skip
    obtain rfl : i = n := by omega
    refine cw_exit ?_
    refine fn_then_exit (fn_then_exit (fn_block_exit ?_))
    refine fn_next ?_
    refine cw_seq ?_
    refine cw_reg ?_
    refine ry (y_asg rfl rfl) rfl rfl ?_
    refine reg_nil ?_
    refine fn_next ?_
    refine cw_ret ?_
    refine fn_ret1 rfl rfl ?_
    rw [ixNe_no hp1.out]
    exact ⟨rfl, H2.base⟩

set_option maxRecDepth 100000 in
theorem containsF_any (b : Nat) (A : Option Addr) (n cap : Nat) (V : List Int) (w : World) (hb : Rd w (some ⟨b, 0, none⟩) [.slice A n cap]) (h : Rd w A (vi .i32 V)) (hl : V.length = n) (h0 : 1 ≤ n) (hn : n ≤ 256) :
    Ret Try.prog 87 [.slice A n cap, .func (.func 88) #[] #[pt (some ⟨b, 0, none⟩) 0]] w (fun v w' => v = .bool (decide (ixNe V n ≥ 0)) ∧ Below w.heap.size w w') := by
  refine ret_enter Try.func87 rfl rfl rfl ?_
  have H0 := HS.start w
  refine cw_seq ?_
  refine cw_reg ?_
  refine ry (y_asg rfl rfl) rfl rfl ?_
  refine reg_nil ?_
  refine fn_next ?_
  refine cw_seq ?_
  refine cw_reg ?_
  refine ry (y_mov rfl rfl) rfl rfl ?_
  refine ry (y_mov rfl rfl) rfl rfl ?_
  refine reg_op (op_call (indexF_any b A n cap V _ (hb.below H0.base) (h.below H0.base) hl h0 hn) rfl kfslab1_5 ⟨rfl, rfl, trivial⟩) rfl rfl ?_
  rintro _ w2 ⟨rfl, e1⟩
  have H3 := H0.ext e1
  refine ry (y_geq rfl rfl rfl) rfl rfl ?_
  refine ry (y_asg rfl rfl) rfl rfl ?_
  refine reg_nil ?_
  refine fn_next ?_
  refine cw_ret ?_
  refine fn_ret1 rfl rfl ?_
  exact ⟨rfl, H3.base⟩

set_option maxRecDepth 100000 in
theorem slabMay_any (v : Int) (w : World) :
    Ret Try.prog 83 [.int .i64 v] w (fun u w' => u = .bool (decide (B32 v)) ∧ Below w.heap.size w w') := by
  refine ret_enter Try.func83 rfl rfl rfl ?_
  have H0 := HS.start w
  refine cw_seq ?_
  refine cw_reg ?_
  refine ry (y_asg rfl rfl) rfl rfl ?_
  refine reg_nil ?_
  refine fn_next ?_
  refine cw_seq ?_
  refine cw_reg ?_
  refine ry (y_mov rfl rfl) rfl rfl ?_
  refine ry (y_geq rfl rfl rfl) rfl rfl ?_
  refine ry (y_mov rfl rfl) rfl rfl ?_
  refine rg_splitd (d := 5) rfl (fun h1 => ?_) (fun h1 => ?_)
  · skip
    refine rgy (y_mov rfl rfl) rfl rfl rfl rfl ?_
    refine rgy (y_leq rfl rfl rfl) rfl rfl rfl rfl ?_
    refine ry (y_pick rfl rfl rfl) rfl rfl ?_
    refine ry (y_asg rfl rfl) rfl rfl ?_
    refine reg_nil ?_
    refine fn_next ?_
    refine cw_ret ?_
    refine fn_ret1 rfl rfl ?_
    refine ⟨?_, H0.base⟩
    first | exact bdec (by unfold B32; omega) | exact bfls (by unfold B32; omega)
  · skip
    refine rg_off rfl rfl rfl rfl rfl ?_
    refine rg_off rfl rfl rfl rfl rfl ?_
    refine ry (y_pick rfl rfl rfl) rfl rfl ?_
    refine ry (y_asg rfl rfl) rfl rfl ?_
    refine reg_nil ?_
    refine fn_next ?_
    refine cw_ret ?_
    refine fn_ret1 rfl rfl ?_
    refine ⟨?_, H0.base⟩
    first | exact bdec (by unfold B32; omega) | exact bfls (by unfold B32; omega)

set_option maxRecDepth 100000 in
theorem tileRight_any (x y : Int) (w : World) :
    Ret Try.prog 82 [.int .i64 x, .int .i64 y] w (fun u w' => u = .bool (decide (1 ≤ x ∧ x ≤ 16 ∧ 1 ≤ y ∧ y ≤ 16)) ∧ Below w.heap.size w w') := by
  refine ret_enter Try.func82 rfl rfl rfl ?_
  have H0 := HS.start w
  refine cw_seq ?_
  refine cw_reg ?_
  refine ry (y_asg rfl rfl) rfl rfl ?_
  refine reg_nil ?_
  refine fn_next ?_
  refine cw_seq ?_
  refine cw_reg ?_
  refine ry (y_mov rfl rfl) rfl rfl ?_
  refine ry (y_geq rfl rfl rfl) rfl rfl ?_
  refine ry (y_mov rfl rfl) rfl rfl ?_
  refine rg_splitd (d := 7) rfl (fun h1 => ?_) (fun h1 => ?_)
  · skip
    refine rgy (y_mov rfl rfl) rfl rfl rfl rfl ?_
    refine rgy (y_leq rfl rfl rfl) rfl rfl rfl rfl ?_
    refine ry (y_pick rfl rfl rfl) rfl rfl ?_
    refine ry (y_mov rfl rfl) rfl rfl ?_
    refine rg_splitd (d := 11) rfl (fun h2 => ?_) (fun h2 => ?_)
    · skip
      refine rgy (y_mov rfl rfl) rfl rfl rfl rfl ?_
      refine rgy (y_geq rfl rfl rfl) rfl rfl rfl rfl ?_
      refine ry (y_pick rfl rfl rfl) rfl rfl ?_
      refine ry (y_mov rfl rfl) rfl rfl ?_
      refine rg_splitd (d := 15) rfl (fun h3 => ?_) (fun h3 => ?_)
      · skip
        refine rgy (y_mov rfl rfl) rfl rfl rfl rfl ?_
        refine rgy (y_leq rfl rfl rfl) rfl rfl rfl rfl ?_
        refine ry (y_pick rfl rfl rfl) rfl rfl ?_
        refine ry (y_asg rfl rfl) rfl rfl ?_
        refine reg_nil ?_
        refine fn_next ?_
        refine cw_ret ?_
        refine fn_ret1 rfl rfl ?_
        refine ⟨?_, H0.base⟩
        first | exact bdec (by omega) | exact bfls (by omega)
      · skip
        refine rg_off rfl rfl rfl rfl rfl ?_
        refine rg_off rfl rfl rfl rfl rfl ?_
        refine ry (y_pick rfl rfl rfl) rfl rfl ?_
        refine ry (y_asg rfl rfl) rfl rfl ?_
        refine reg_nil ?_
        refine fn_next ?_
        refine cw_ret ?_
        refine fn_ret1 rfl rfl ?_
        refine ⟨?_, H0.base⟩
        first | exact bdec (by omega) | exact bfls (by omega)
    · skip
      refine rg_off rfl rfl rfl rfl rfl ?_
      refine rg_off rfl rfl rfl rfl rfl ?_
      refine ry (y_pick rfl rfl rfl) rfl rfl ?_
      refine ry (y_mov rfl rfl) rfl rfl ?_
      refine rg_off rfl rfl rfl rfl rfl ?_
      refine rg_off rfl rfl rfl rfl rfl ?_
      refine ry (y_pick rfl rfl rfl) rfl rfl ?_
      refine ry (y_asg rfl rfl) rfl rfl ?_
      refine reg_nil ?_
      refine fn_next ?_
      refine cw_ret ?_
      refine fn_ret1 rfl rfl ?_
      refine ⟨?_, H0.base⟩
      first | exact bdec (by omega) | exact bfls (by omega)
  · skip
    refine rg_off rfl rfl rfl rfl rfl ?_
    refine rg_off rfl rfl rfl rfl rfl ?_
    refine ry (y_pick rfl rfl rfl) rfl rfl ?_
    refine ry (y_mov rfl rfl) rfl rfl ?_
    refine rg_off rfl rfl rfl rfl rfl ?_
    refine rg_off rfl rfl rfl rfl rfl ?_
    refine ry (y_pick rfl rfl rfl) rfl rfl ?_
    refine ry (y_mov rfl rfl) rfl rfl ?_
    refine rg_off rfl rfl rfl rfl rfl ?_
    refine rg_off rfl rfl rfl rfl rfl ?_
    refine ry (y_pick rfl rfl rfl) rfl rfl ?_
    refine ry (y_asg rfl rfl) rfl rfl ?_
    refine reg_nil ?_
    refine fn_next ?_
    refine cw_ret ?_
    refine fn_ret1 rfl rfl ?_
    refine ⟨?_, H0.base⟩
    first | exact bdec (by omega) | exact bfls (by omega)

set_option maxRecDepth 100000 in
theorem slabNew_ok (a h : Nat) (v : Int) (w : World) (p : sizeP a h) (hv : B32 v) :
    Ret Try.prog 26 [.int .i64 (a : Int), .int .i64 (h : Int), .int .i64 v] w (fun u w' => ∃ b, u = .tuple #[.pointer (some ⟨b, 0, none⟩), .int .i64 0] ∧ HS w w' [.blk b [.int .i64 (a : Int), .int .i64 (h : Int), (Ld.flat v).val (a * h)] 124]) := by
  obtain ⟨hp1, hp2, hp3, hp4⟩ := p
  refine ret_enter Try.func26 rfl rfl rfl ?_
  have H0 := HS.start w
  refine cw_seq ?_
  refine cw_reg ?_
  refine ry (y_asg rfl rfl) rfl rfl ?_
  refine ry (y_asg rfl rfl) rfl rfl ?_
  refine reg_nil ?_
  refine fn_next ?_
  refine cw_seq ?_
  refine cw_block ?_
  refine cw_seq ?_
  refine cw_reg ?_
  refine ry (y_mov rfl rfl) rfl rfl ?_
  refine ry (y_lss rfl rfl rfl) rfl rfl ?_
  refine ry (y_mov rfl rfl) rfl rfl ?_
  refine rg_splitd (d := 11) rfl (fun h1 => ?_) (fun h1 => ?_)
  · exfalso; omega
  · skip
    refine rgy (y_mov rfl rfl) rfl rfl rfl rfl ?_
    refine rgy (y_gtr rfl rfl rfl) rfl rfl rfl rfl ?_
    refine ry (y_pick rfl rfl rfl) rfl rfl ?_
    refine ry (y_mov rfl rfl) rfl rfl ?_
    refine rg_splitd (d := 15) rfl (fun h2 => ?_) (fun h2 => ?_)
    · exfalso; omega
    · skip
      refine rgy (y_mov rfl rfl) rfl rfl rfl rfl ?_
      refine rgy (y_lss rfl rfl rfl) rfl rfl rfl rfl ?_
      refine ry (y_pick rfl rfl rfl) rfl rfl ?_
      refine ry (y_mov rfl rfl) rfl rfl ?_
      refine rg_splitd (d := 19) rfl (fun h3 => ?_) (fun h3 => ?_)
      · exfalso; omega
      · skip
        refine rgy (y_mov rfl rfl) rfl rfl rfl rfl ?_
        refine rgy (y_gtr rfl rfl rfl) rfl rfl rfl rfl ?_
        refine ry (y_pick rfl rfl rfl) rfl rfl ?_
        refine ry (y_mov rfl rfl) rfl rfl ?_
        refine rg_splitd (d := 23) rfl (fun h4 => ?_) (fun h4 => ?_)
        · exfalso; omega
        · skip
          refine rgy (y_mov rfl rfl) rfl rfl rfl rfl ?_
          refine rgy (y_mov rfl rfl) rfl rfl rfl rfl ?_
          refine rg_on rfl rfl rfl (op_call (tileRight_any a h _) rfl kfslab1_6 ⟨rfl, rfl, trivial⟩) rfl ?_
          rintro _ w6 ⟨rfl, e5⟩
          have H7 := H0.ext e5
          refine rgy (y_notd rfl rfl) rfl rfl rfl rfl ?_
          refine ry (y_pick rfl rfl rfl) rfl rfl ?_
          refine ry (y_asg rfl rfl) rfl rfl ?_
          refine reg_nil ?_
          refine fn_next ?_
          refine cw_condd rfl (fun h8 => ?_) (fun h8 => ?_)
          · exfalso; omega
          · skip
            refine cw_seq ?_
            refine cw_reg ?_
            refine ry (y_mov rfl rfl) rfl rfl ?_
            refine reg_op (op_call (slabMay_any v _) rfl kfslab1_7 ⟨rfl, trivial⟩) rfl rfl ?_
            rintro _ w10 ⟨rfl, e9⟩
            have H11 := H7.ext e9
            refine ry (y_notd rfl rfl) rfl rfl ?_
            refine ry (y_asg rfl rfl) rfl rfl ?_
            refine reg_nil ?_
            refine fn_next ?_
            refine cw_condd rfl (fun h12 => ?_) (fun h12 => ?_)
            · exact absurd hv h12
            · skip
              refine cw_skip ?_
              refine fn_block ?_
              refine fn_next ?_
              refine cw_seq ?_
              refine cw_reg ?_
              refine ry (y_mov rfl rfl) rfl rfl ?_
              refine ry (y_mov rfl rfl) rfl rfl ?_
              refine ry (y_mov rfl rfl) rfl rfl ?_
              refine ry (y_conv rfl Try.underlying2 Try.underlying120 rfl (wi32 (show _ from by unfold B32 at hv; omega))) rfl rfl ?_
              refine ry (y_iface rfl kfslab1_8 rfl) rfl rfl ?_
              refine ry (y_build (places := [(0, 1), (1, 1), (2, 1)]) (parts := [(0, _), (1, _), (2, _)]) (vs := [(0, _), (1, _), (2, _)]) (cs := [.int _ _, .int _ _, _]) rfl Try.underlying124 (by kernel_rfl) kfslab1_9 rfl ⟨rfl, rfl, rfl, trivial⟩ rfl) rfl rfl ?_
              refine reg_op (op_box (cs := [.int _ _, .int _ _, _]) H11 rfl rfl rfl) rfl rfl ?_
              rintro _ w14 ⟨b13, rfl, H15⟩
              refine ry (y_asg rfl rfl) rfl rfl ?_
              refine ry (y_asg rfl rfl) rfl rfl ?_
              refine reg_nil ?_
              refine fn_next ?_
              refine cw_ret ?_
              refine fn_retn (vs := [_, _]) rfl ⟨rfl, rfl, trivial⟩ rfl ?_
              exact ⟨_, rfl, H15⟩

set_option maxRecDepth 100000 in
theorem slabCheck_any (b a h : Nat) (c : Value) (x0 y0 x1 y1 : Int) (w : World) (hs : Rd w (some ⟨b, 0, none⟩) [.int .i64 (a : Int), .int .i64 (h : Int), c]) :
    Ret Try.prog 84 [pt (some ⟨b, 0, none⟩) 0, .agg #[.int .i64 x0, .int .i64 y0, .int .i64 x1, .int .i64 y1]] w (fun v w' => v = .int .i64 (withinC x0 y0 x1 y1 a h) ∧ Below w.heap.size w w') := by
  refine ret_enter Try.func84 rfl rfl rfl ?_
  have H0 := HS.start w
  refine cw_seq ?_
  refine cw_reg ?_
  refine reg_op (op_box (cs := [.int _ _, .int _ _, .int _ _, .int _ _]) H0 rfl rfl rfl) rfl rfl ?_
  rintro _ w2 ⟨b1, rfl, H3⟩
  refine ry (y_asg rfl rfl) rfl rfl ?_
  refine reg_nil ?_
  refine fn_next ?_
  refine cw_seq ?_
  refine cw_seq ?_
  refine cw_reg ?_
  refine ry (y_mov rfl rfl) rfl rfl ?_
  refine ry (y_peqlnil rfl Try.underlying51 rfl rfl) rfl rfl ?_
  refine reg_nil ?_
  refine fn_next ?_
  refine cw_condf rfl ?_
  refine cw_skip ?_
  refine fn_next ?_
  refine cw_seq ?_
  refine cw_draw H3 [0, 1, 2, 3, 4, 5, 6, 7, 8, 9, 10] [] (fun X HX => HX) (by kernel_rfl) (by kernel_rfl) (by rfl) ?_
  simp only [pick, List.getElem?_cons_succ, List.getElem?_cons_zero]
  refine hk_y (fun Y HY => y_ldb (i := 0) (cs := [_, _, _, _]) HY rfl rfl kfslab1_10 rfl rfl) rfl rfl ?_
  refine hk_y (fun Y HY => y_mov rfl rfl) rfl rfl ?_
  refine hk_y (fun Y HY => y_nilck rfl rfl) rfl rfl ?_
  refine hk_y (fun Y HY => y_far (hs.below HY.base) rfl rfl kfslab1_11 rfl (rfl)) rfl rfl ?_
  refine hk_y (fun Y HY => y_ldr (hs.below HY.base) rfl rfl kfslab1_12 (rfl)) rfl rfl ?_
  refine hk_y (fun Y HY => y_mov rfl rfl) rfl rfl ?_
  refine hk_y (fun Y HY => y_nilck rfl rfl) rfl rfl ?_
  refine hk_y (fun Y HY => y_far (hs.below HY.base) rfl rfl kfslab1_13 rfl (rfl)) rfl rfl ?_
  refine hk_y (fun Y HY => y_ldr (hs.below HY.base) rfl rfl kfslab1_12 (rfl)) rfl rfl ?_
  refine hk_q (qy_call (fun Y HY => ret_elder (within_any x0 y0 x1 y1 a h _)) rfl kfslab1_14 ⟨rfl, rfl, rfl, trivial⟩) rfl rfl ?_
  refine hk_y (fun Y HY => y_asg rfl rfl) rfl rfl ?_
  refine hk_nil ?_
  intro w4 H5
  refine tv_nil ?_
  refine fn_next ?_
  refine cw_ret ?_
  refine fn_ret1 rfl rfl ?_
  exact ⟨rfl, H5.base⟩

set_option maxRecDepth 100000 in
theorem slabSize_any (b a h : Nat) (c : Value) (w : World) (hs : Rd w (some ⟨b, 0, none⟩) [.int .i64 (a : Int), .int .i64 (h : Int), c]) :
    Ret Try.prog 40 [pt (some ⟨b, 0, none⟩) 0] w (fun v w' => v = .tuple #[.int .i64 (a : Int), .int .i64 (h : Int)] ∧ Below w.heap.size w w') := by
  refine ret_enter Try.func40 rfl rfl rfl ?_
  have H0 := HS.start w
  refine cw_seq ?_
  refine cw_reg ?_
  refine ry (y_asg rfl rfl) rfl rfl ?_
  refine ry (y_asg rfl rfl) rfl rfl ?_
  refine reg_nil ?_
  refine fn_next ?_
  refine cw_seq ?_
  refine cw_seq ?_
  refine cw_reg ?_
  refine ry (y_mov rfl rfl) rfl rfl ?_
  refine ry (y_peqlnil rfl Try.underlying51 rfl rfl) rfl rfl ?_
  refine reg_nil ?_
  refine fn_next ?_
  refine cw_condf rfl ?_
  refine cw_skip ?_
  refine fn_next ?_
  refine cw_seq ?_
  refine cw_draw H0 [0, 1, 2, 3, 4, 5, 6, 7, 8, 9] [] (fun X HX => HX) (by kernel_rfl) (by kernel_rfl) (by rfl) ?_
  simp only [pick, List.getElem?_cons_succ, List.getElem?_cons_zero]
  refine hk_y (fun Y HY => y_mov rfl rfl) rfl rfl ?_
  refine hk_y (fun Y HY => y_nilck rfl rfl) rfl rfl ?_
  refine hk_y (fun Y HY => y_far (hs.below HY.base) rfl rfl kfslab1_11 rfl (rfl)) rfl rfl ?_
  refine hk_y (fun Y HY => y_ldr (hs.below HY.base) rfl rfl kfslab1_12 (rfl)) rfl rfl ?_
  refine hk_y (fun Y HY => y_mov rfl rfl) rfl rfl ?_
  refine hk_y (fun Y HY => y_nilck rfl rfl) rfl rfl ?_
  refine hk_y (fun Y HY => y_far (hs.below HY.base) rfl rfl kfslab1_13 rfl (rfl)) rfl rfl ?_
  refine hk_y (fun Y HY => y_ldr (hs.below HY.base) rfl rfl kfslab1_12 (rfl)) rfl rfl ?_
  refine hk_y (fun Y HY => y_asg rfl rfl) rfl rfl ?_
  refine hk_y (fun Y HY => y_asg rfl rfl) rfl rfl ?_
  refine hk_nil ?_
  intro w1 H2
  refine tv_nil ?_
  refine fn_next ?_
  refine cw_ret ?_
  refine fn_retn (vs := [_, _]) rfl ⟨rfl, rfl, trivial⟩ rfl ?_
  exact ⟨rfl, H2.base⟩

set_option maxRecDepth 100000 in
theorem slabSpot_any (x y : Int) (w : World) :
    Ret Try.prog 90 [.agg #[.int .i64 x, .int .i64 y]] w (fun v w' => v = .agg #[.int .i64 x, .int .i64 y, .int .i64 x, .int .i64 y] ∧ Below w.heap.size w w') := by
  refine ret_enter Try.func90 rfl rfl rfl ?_
  have H0 := HS.start w
  refine cw_seq ?_
  refine cw_reg ?_
  refine reg_op (op_box (cs := [.int _ _, .int _ _]) H0 rfl rfl rfl) rfl rfl ?_
  rintro _ w2 ⟨b1, rfl, H3⟩
  refine reg_op (op_alloc H3 rfl kfslab1_15) rfl rfl ?_
  rintro _ w5 ⟨b4, rfl, H6⟩
  refine reg_nil ?_
  refine fn_next ?_
  refine cw_seq ?_
  refine cw_reg ?_
  refine ry (y_fa rfl rfl kfslab1_16 rfl) rfl rfl ?_
  refine ry (y_ld rfl rfl kfslab1_12 (H6.cell (i := 1) rfl rfl)) rfl rfl ?_
  refine ry (y_fa rfl rfl kfslab1_17 rfl) rfl rfl ?_
  refine ry (y_ld rfl rfl kfslab1_12 (H6.cell (i := 1) rfl rfl)) rfl rfl ?_
  refine ry (y_fa rfl rfl kfslab1_16 rfl) rfl rfl ?_
  refine ry (y_ld rfl rfl kfslab1_12 (H6.cell (i := 1) rfl rfl)) rfl rfl ?_
  refine ry (y_fa rfl rfl kfslab1_17 rfl) rfl rfl ?_
  refine ry (y_ld rfl rfl kfslab1_12 (H6.cell (i := 1) rfl rfl)) rfl rfl ?_
  refine ry (y_build (places := [(0, 1), (1, 1), (2, 1), (3, 1)]) (parts := [(0, _), (1, _), (2, _), (3, _)]) (vs := [(0, _), (1, _), (2, _), (3, _)]) (cs := [.int _ _, .int _ _, .int _ _, .int _ _]) rfl Try.underlying24 (by kernel_rfl) kfslab1_15 rfl ⟨rfl, rfl, rfl, rfl, trivial⟩ rfl) rfl rfl ?_
  refine reg_op (op_st (i := 0) (vs := [.int _ _, .int _ _, .int _ _, .int _ _]) H6 rfl rfl rfl rfl rfl kfslab1_18 rfl rfl rfl) rfl rfl ?_
  rintro _ w7 H8
  refine reg_nil ?_
  refine fn_next ?_
  refine cw_ret ?_
  refine fn_ret1 rfl (⟨_, rfl, load_agg (cs := [_, _, _, _]) kfslab1_10 rfl fun j v hv => by rw [Nat.zero_add]; exact H8.cell (i := 0) rfl hv⟩) ?_
  exact ⟨rfl, H8.base⟩

set_option maxRecDepth 100000 in
theorem flatAt_any (u i : Int) (w : World) (hu : B32 u) :
    Ret Try.prog 146 [.int .i32 u, .int .i64 i] w (fun v w' => v = .int .i64 u ∧ Below w.heap.size w w') := by
  refine ret_enter Try.func146 rfl rfl rfl ?_
  have H0 := HS.start w
  refine cw_seq ?_
  refine cw_reg ?_
  refine ry (y_asg rfl rfl) rfl rfl ?_
  refine reg_nil ?_
  refine fn_next ?_
  refine cw_seq ?_
  refine cw_reg ?_
  refine ry (y_mov rfl rfl) rfl rfl ?_
  refine ry (y_conv rfl Try.underlying120 Try.underlying2 rfl (wi (show _ from by unfold B32 at hu; omega))) rfl rfl ?_
  refine ry (y_asg rfl rfl) rfl rfl ?_
  refine reg_nil ?_
  refine fn_next ?_
  refine cw_ret ?_
  refine fn_ret1 rfl rfl ?_
  exact ⟨rfl, H0.base⟩

set_option maxRecDepth 100000 in
theorem roughAt_any (A : Option Addr) (n cap i : Nat) (V : List Int) (w : World) (h : Rd w A (vi .i32 V)) (hl : V.length = n) (hi : i < n) (hb : AllB V) :
    Ret Try.prog 147 [.slice A n cap, .int .i64 (i : Int)] w (fun v w' => v = .int .i64 (nth V i) ∧ Below w.heap.size w w') := by
  have hgi := vi_get (k := .i32) (zs := V) (i := i) (by omega)
  have hu := hb.at_ (j := i) (by omega)
  refine ret_enter Try.func147 rfl rfl rfl ?_
  have H0 := HS.start w
  refine cw_seq ?_
  refine cw_reg ?_
  refine ry (y_asg rfl rfl) rfl rfl ?_
  refine reg_nil ?_
  refine fn_next ?_
  refine cw_seq ?_
  refine cw_reg ?_
  refine ry (y_mov rfl rfl) rfl rfl ?_
  refine ry (y_mov rfl rfl) rfl rfl ?_
  refine ry (y_iar (h.below H0.base) rfl rfl rfl kfslab1_2 (rfl) (by omega) (Nat.mul_one _) (hgi)) rfl rfl ?_
  refine ry (y_ldr (h.below H0.base) rfl rfl kfslab1_3 (hgi)) rfl rfl ?_
  refine ry (y_conv rfl Try.underlying21 Try.underlying2 rfl (wi (show _ from by unfold B32 at hu; omega))) rfl rfl ?_
  refine ry (y_asg rfl rfl) rfl rfl ?_
  refine reg_nil ?_
  refine fn_next ?_
  refine cw_ret ?_
  refine fn_ret1 rfl rfl ?_
  exact ⟨rfl, H0.base⟩

set_option maxRecDepth 100000 in
theorem slabFlat_flat (b a h : Nat) (u : Int) (w : World) (p : sizeP a h) (hu : B32 u) (hs : Rd w (some ⟨b, 0, none⟩) [.int .i64 (a : Int), .int .i64 (h : Int), .iface 120 (.int .i32 u)]) :
    Ret Try.prog 35 [pt (some ⟨b, 0, none⟩) 0] w (fun v w' => v = .tuple #[.int .i64 (flS ((Ld.flat u).lst (a * h)) (a * h)).1, .bool (flS ((Ld.flat u).lst (a * h)) (a * h)).2] ∧ Below w.heap.size w w') := by
  have hm := p.mul
  refine ret_enter Try.func35 rfl rfl rfl ?_
  have H0 := HS.start w
  refine cw_seq ?_
  refine cw_reg ?_
  refine ry (y_asg rfl rfl) rfl rfl ?_
  refine ry (y_asg rfl rfl) rfl rfl ?_
  refine reg_nil ?_
  refine fn_next ?_
  refine cw_seq ?_
  refine cw_seq ?_
  refine cw_reg ?_
  refine ry (y_mov rfl rfl) rfl rfl ?_
  refine ry (y_peqlnil rfl Try.underlying51 rfl rfl) rfl rfl ?_
  refine reg_nil ?_
  refine fn_next ?_
  refine cw_condf rfl ?_
  refine cw_skip ?_
  refine fn_next ?_
  refine cw_seq ?_
  refine cw_reg ?_
  refine ry (y_mov rfl rfl) rfl rfl ?_
  refine ry (y_nilck rfl rfl) rfl rfl ?_
  refine ry (y_far (hs.below H0.base) rfl rfl kfslab1_19 rfl (rfl)) rfl rfl ?_
  refine ry (y_ldr (hs.below H0.base) rfl rfl kfslab1_20 (rfl)) rfl rfl ?_
  refine ry (y_tayes rfl kfslab1_8 rfl) rfl rfl ?_
  refine ry (y_mov rfl rfl) rfl rfl ?_
  refine ry (y_ext rfl rfl rfl) rfl rfl ?_
  refine ry (y_ext rfl rfl rfl) rfl rfl ?_
  refine ry (y_asg rfl rfl) rfl rfl ?_
  refine ry (y_asg rfl rfl) rfl rfl ?_
  refine reg_nil ?_
  refine fn_next ?_
  refine cw_seq ?_
  refine cw_reg ?_
  refine ry (y_mov rfl rfl) rfl rfl ?_
  refine ry (y_conv rfl Try.underlying120 Try.underlying2 rfl (wi (show _ from by unfold B32 at hu; omega))) rfl rfl ?_
  refine ry (y_mov rfl rfl) rfl rfl ?_
  refine ry (y_asg rfl rfl) rfl rfl ?_
  refine ry (y_asg rfl rfl) rfl rfl ?_
  refine reg_nil ?_
  refine fn_next ?_
  refine cw_ret ?_
  refine fn_retn (vs := [_, _]) rfl ⟨rfl, rfl, trivial⟩ rfl ?_
  rw [show (Ld.flat u).lst (a * h) = List.replicate (a * h) u from rfl, flS_flat p.mul.1]
  exact ⟨rfl, H0.base⟩

set_option maxRecDepth 100000 in
theorem slabFlat_rough (b a h : Nat) (A : Option Addr) (cap : Nat) (V : List Int) (w : World) (p : sizeP a h) (hL : (Ld.rough A cap V).ok (a * h)) (hr : Rd w A (vi .i32 V)) (hs : Rd w (some ⟨b, 0, none⟩) [.int .i64 (a : Int), .int .i64 (h : Int), .iface 129 (.slice A (a * h) cap)]) :
    Ret Try.prog 35 [pt (some ⟨b, 0, none⟩) 0] w (fun v w' => v = .tuple #[.int .i64 (flS ((Ld.rough A cap V).lst (a * h)) (a * h)).1, .bool (flS ((Ld.rough A cap V).lst (a * h)) (a * h)).2] ∧ Below w.heap.size w w') := by
  refine ret_enter Try.func35 rfl rfl rfl ?_
  have H0 := HS.start w
  refine cw_seq ?_
  refine cw_reg ?_
  refine ry (y_asg rfl rfl) rfl rfl ?_
  refine ry (y_asg rfl rfl) rfl rfl ?_
  refine reg_nil ?_
  refine fn_next ?_
  refine cw_seq ?_
  refine cw_seq ?_
  refine cw_reg ?_
  refine ry (y_mov rfl rfl) rfl rfl ?_
  refine ry (y_peqlnil rfl Try.underlying51 rfl rfl) rfl rfl ?_
  refine reg_nil ?_
  refine fn_next ?_
  refine cw_condf rfl ?_
  refine cw_skip ?_
  refine fn_next ?_
  refine cw_seq ?_
  refine cw_reg ?_
  refine ry (y_mov rfl rfl) rfl rfl ?_
  refine ry (y_nilck rfl rfl) rfl rfl ?_
  refine ry (y_far (hs.below H0.base) rfl rfl kfslab1_19 rfl (rfl)) rfl rfl ?_
  refine ry (y_ldr (hs.below H0.base) rfl rfl kfslab1_20 (rfl)) rfl rfl ?_
  refine ry (y_tano rfl kfslab1_8 rfl kfslab1_21 rfl) rfl rfl ?_
  refine ry (y_mov rfl rfl) rfl rfl ?_
  refine ry (y_ext rfl rfl rfl) rfl rfl ?_
  refine ry (y_ext rfl rfl rfl) rfl rfl ?_
  refine ry (y_asg rfl rfl) rfl rfl ?_
  refine ry (y_asg rfl rfl) rfl rfl ?_
  refine reg_nil ?_
  refine fn_next ?_
  refine cw_seq ?_
  refine cw_reg ?_
  refine ry (y_mov rfl rfl) rfl rfl ?_
  refine ry (y_conv rfl Try.underlying120 Try.underlying2 rfl (wi (by omega))) rfl rfl ?_
  refine ry (y_mov rfl rfl) rfl rfl ?_
  refine ry (y_asg rfl rfl) rfl rfl ?_
  refine ry (y_asg rfl rfl) rfl rfl ?_
  refine reg_nil ?_
  refine fn_next ?_
  refine cw_ret ?_
  refine fn_retn (vs := [_, _]) rfl ⟨rfl, rfl, trivial⟩ rfl ?_
  rw [show (Ld.rough A cap V).lst (a * h) = V from rfl, flS_rough hL]
  exact ⟨rfl, H0.base⟩

theorem slabFlat_any (b a h : Nat) (L : Ld) (w : World) (p : sizeP a h) (hL : L.ok (a * h)) (hr : L.rd w) (hs : Rd w (some ⟨b, 0, none⟩) [.int .i64 (a : Int), .int .i64 (h : Int), L.val (a * h)]) : Ret Try.prog 35 [pt (some ⟨b, 0, none⟩) 0] w (fun v w' => v = .tuple #[.int .i64 (flS (L.lst (a * h)) (a * h)).1, .bool (flS (L.lst (a * h)) (a * h)).2] ∧ Below w.heap.size w w') := by
  cases L with
  | flat u => exact slabFlat_flat b a h u w p hL hs
  | rough A cap V => exact slabFlat_rough b a h A cap V w p hL hr hs

set_option maxRecDepth 100000 in
theorem slabRange_flat (b a h : Nat) (u : Int) (w : World) (p : sizeP a h) (hu : B32 u) (hs : Rd w (some ⟨b, 0, none⟩) [.int .i64 (a : Int), .int .i64 (h : Int), .iface 120 (.int .i32 u)]) :
    Ret Try.prog 37 [pt (some ⟨b, 0, none⟩) 0] w (fun v w' => v = .agg #[.int .i64 (mnI ((Ld.flat u).lst (a * h)) (a * h)), .int .i64 (mxI ((Ld.flat u).lst (a * h)) (a * h))] ∧ Below w.heap.size w w') := by
  have hm := p.mul
  refine ret_enter Try.func37 rfl rfl rfl ?_
  have H0 := HS.start w
  refine cw_seq ?_
  refine cw_reg ?_
  refine reg_op (op_alloc H0 rfl kfslab1_22) rfl rfl ?_
  rintro _ w2 ⟨b1, rfl, H3⟩
  refine reg_nil ?_
  refine fn_next ?_
  refine cw_seq ?_
  refine cw_seq ?_
  refine cw_reg ?_
  refine ry (y_mov rfl rfl) rfl rfl ?_
  refine ry (y_peqlnil rfl Try.underlying51 rfl rfl) rfl rfl ?_
  refine reg_nil ?_
  refine fn_next ?_
  refine cw_condf rfl ?_
  refine cw_skip ?_
  refine fn_next ?_
  refine cw_seq ?_
  refine cw_seq ?_
  refine cw_reg ?_
  refine ry (y_mov rfl rfl) rfl rfl ?_
  refine ry (y_nilck rfl rfl) rfl rfl ?_
  refine ry (y_far (hs.below H3.base) rfl rfl kfslab1_19 rfl (rfl)) rfl rfl ?_
  refine ry (y_ldr (hs.below H3.base) rfl rfl kfslab1_20 (rfl)) rfl rfl ?_
  refine ry (y_tano rfl kfslab1_23 rfl kfslab1_24 rfl) rfl rfl ?_
  refine ry (y_mov rfl rfl) rfl rfl ?_
  refine ry (y_ext rfl rfl rfl) rfl rfl ?_
  refine ry (y_ext rfl rfl rfl) rfl rfl ?_
  refine ry (y_asg rfl rfl) rfl rfl ?_
  refine ry (y_asg rfl rfl) rfl rfl ?_
  refine reg_nil ?_
  refine fn_next ?_
  refine cw_seq ?_
  refine cw_reg ?_
  refine ry (y_mov rfl rfl) rfl rfl ?_
  refine reg_nil ?_
  refine fn_next ?_
  refine cw_condf rfl ?_
  refine cw_skip ?_
  refine fn_next ?_
  refine cw_seq ?_
  refine cw_reg ?_
  refine ry (y_mov rfl rfl) rfl rfl ?_
  refine ry (y_nilck rfl rfl) rfl rfl ?_
  refine ry (y_far (hs.below H3.base) rfl rfl kfslab1_19 rfl (rfl)) rfl rfl ?_
  refine ry (y_ldr (hs.below H3.base) rfl rfl kfslab1_20 (rfl)) rfl rfl ?_
  refine reg_op (op_inv (flatAt_any u _ _ hu) rfl kfslab1_25 kfslab1_26 kfslab1_27 rfl ⟨rfl, trivial⟩) rfl rfl ?_
  rintro _ w5 ⟨rfl, e4⟩
  have H6 := H3.ext e4
  refine ry (y_asg rfl rfl) rfl rfl ?_
  refine reg_nil ?_
  refine fn_next ?_
  refine cw_seq ?_
  refine cw_reg ?_
  refine ry (y_mov rfl rfl) rfl rfl ?_
  refine ry (y_mov rfl rfl) rfl rfl ?_
  refine ry (y_build (places := [(0, 1), (1, 1)]) (parts := [(0, _), (1, _)]) (vs := [(0, _), (1, _)]) (cs := [.int _ _, .int _ _]) rfl Try.underlying68 (by kernel_rfl) kfslab1_22 rfl ⟨rfl, rfl, trivial⟩ rfl) rfl rfl ?_
  refine reg_op (op_st (i := 0) (vs := [.int _ _, .int _ _]) H6 rfl rfl rfl rfl rfl kfslab1_28 rfl rfl rfl) rfl rfl ?_
  rintro _ w7 H8
  refine reg_nil ?_
  refine fn_next ?_
  refine cw_ret ?_
  refine fn_ret1 rfl (⟨_, rfl, load_agg (cs := [_, _]) kfslab1_29 rfl fun j v hv => by rw [Nat.zero_add]; exact H8.cell (i := 0) rfl hv⟩) ?_
  rw [show (Ld.flat u).lst (a * h) = List.replicate (a * h) u from rfl, mn_flat p.mul.1, mx_flat p.mul.1]
  exact ⟨rfl, H8.base⟩

set_option maxRecDepth 100000 in
theorem slabRange_rough (b a h : Nat) (A : Option Addr) (cap : Nat) (V : List Int) (w : World) (p : sizeP a h) (hL : (Ld.rough A cap V).ok (a * h)) (hr : Rd w A (vi .i32 V)) (hs : Rd w (some ⟨b, 0, none⟩) [.int .i64 (a : Int), .int .i64 (h : Int), .iface 129 (.slice A (a * h) cap)]) :
    Ret Try.prog 37 [pt (some ⟨b, 0, none⟩) 0] w (fun v w' => v = .agg #[.int .i64 (mnI ((Ld.rough A cap V).lst (a * h)) (a * h)), .int .i64 (mxI ((Ld.rough A cap V).lst (a * h)) (a * h))] ∧ Below w.heap.size w w') := by
  have hm := p.mul
  have hl := hL.1
  have b1 := mnI_bd hL.2.1 (n := a * h) (by omega) (by omega)
  have b2 := mxI_bd hL.2.1 (n := a * h) (by omega) (by omega)
  unfold B32 at b1 b2
  refine ret_enter Try.func37 rfl rfl rfl ?_
  have H0 := HS.start w
  refine cw_seq ?_
  refine cw_reg ?_
  refine reg_op (op_alloc H0 rfl kfslab1_22) rfl rfl ?_
  rintro _ w2 ⟨b1, rfl, H3⟩
  refine reg_nil ?_
  refine fn_next ?_
  refine cw_seq ?_
  refine cw_seq ?_
  refine cw_reg ?_
  refine ry (y_mov rfl rfl) rfl rfl ?_
  refine ry (y_peqlnil rfl Try.underlying51 rfl rfl) rfl rfl ?_
  refine reg_nil ?_
  refine fn_next ?_
  refine cw_condf rfl ?_
  refine cw_skip ?_
  refine fn_next ?_
  refine cw_seq ?_
  refine cw_seq ?_
  refine cw_reg ?_
  refine ry (y_mov rfl rfl) rfl rfl ?_
  refine ry (y_nilck rfl rfl) rfl rfl ?_
  refine ry (y_far (hs.below H3.base) rfl rfl kfslab1_19 rfl (rfl)) rfl rfl ?_
  refine ry (y_ldr (hs.below H3.base) rfl rfl kfslab1_20 (rfl)) rfl rfl ?_
  refine ry (y_tayes rfl kfslab1_23 rfl) rfl rfl ?_
  refine ry (y_mov rfl rfl) rfl rfl ?_
  refine ry (y_ext rfl rfl rfl) rfl rfl ?_
  refine ry (y_ext rfl rfl rfl) rfl rfl ?_
  refine ry (y_asg rfl rfl) rfl rfl ?_
  refine ry (y_asg rfl rfl) rfl rfl ?_
  refine reg_nil ?_
  refine fn_next ?_
  refine cw_seq ?_
  refine cw_reg ?_
  refine ry (y_mov rfl rfl) rfl rfl ?_
  refine reg_nil ?_
  refine fn_next ?_
  refine cw_condt rfl ?_
  refine cw_seq ?_
  refine cw_reg ?_
  refine ry (y_mov rfl rfl) rfl rfl ?_
  refine reg_op (op_call (MinR_any A (a * h) cap V _ (hr.below H3.base) hl (by omega) (by omega)) rfl kfslab1_30 ⟨rfl, trivial⟩) rfl rfl ?_
  rintro _ w5 ⟨rfl, e4⟩
  have H6 := H3.ext e4
  refine ry (y_conv rfl Try.underlying21 Try.underlying2 rfl (wi (by omega))) rfl rfl ?_
  refine ry (y_mov rfl rfl) rfl rfl ?_
  refine reg_op (op_call (MaxR_any A (a * h) cap V _ (hr.below H6.base) hl (by omega) (by omega)) rfl kfslab1_31 ⟨rfl, trivial⟩) rfl rfl ?_
  rintro _ w8 ⟨rfl, e7⟩
  have H9 := H6.ext e7
  refine ry (y_conv rfl Try.underlying21 Try.underlying2 rfl (wi (by omega))) rfl rfl ?_
  refine ry (y_build (places := [(0, 1), (1, 1)]) (parts := [(0, _), (1, _)]) (vs := [(0, _), (1, _)]) (cs := [.int _ _, .int _ _]) rfl Try.underlying68 (by kernel_rfl) kfslab1_22 rfl ⟨rfl, rfl, trivial⟩ rfl) rfl rfl ?_
  refine reg_op (op_st (i := 0) (vs := [.int _ _, .int _ _]) H9 rfl rfl rfl rfl rfl kfslab1_28 rfl rfl rfl) rfl rfl ?_
  rintro _ w10 H11
  refine reg_nil ?_
  refine fn_next ?_
  refine cw_ret ?_
  refine fn_then_ret ?_
  refine fn_ret1 rfl (⟨_, rfl, load_agg (cs := [_, _]) kfslab1_29 rfl fun j v hv => by rw [Nat.zero_add]; exact H11.cell (i := 0) rfl hv⟩) ?_
  exact ⟨rfl, H11.base⟩

theorem slabRange_any (b a h : Nat) (L : Ld) (w : World) (p : sizeP a h) (hL : L.ok (a * h)) (hr : L.rd w) (hs : Rd w (some ⟨b, 0, none⟩) [.int .i64 (a : Int), .int .i64 (h : Int), L.val (a * h)]) : Ret Try.prog 37 [pt (some ⟨b, 0, none⟩) 0] w (fun v w' => v = .agg #[.int .i64 (mnI (L.lst (a * h)) (a * h)), .int .i64 (mxI (L.lst (a * h)) (a * h))] ∧ Below w.heap.size w w') := by
  cases L with
  | flat u => exact slabRange_flat b a h u w p hL hs
  | rough A cap V => exact slabRange_rough b a h A cap V w p hL hr hs

set_option maxRecDepth 100000 in
theorem slabAt_no (b a h : Nat) (c : Value) (x y : Int) (V : List Int) (w : World) (hs : Rd w (some ⟨b, 0, none⟩) [.int .i64 (a : Int), .int .i64 (h : Int), c]) (hw : ¬ atC a h x y = 0) :
    Ret Try.prog 39 [pt (some ⟨b, 0, none⟩) 0, .agg #[.int .i64 x, .int .i64 y]] w (fun v w' => v = .tuple #[.int .i64 (atV (V) a h x y), .int .i64 (atC a h x y)] ∧ Below w.heap.size w w') := by
  refine ret_enter Try.func39 rfl rfl rfl ?_
  have H0 := HS.start w
  refine cw_seq ?_
  refine cw_reg ?_
  refine reg_op (op_box (cs := [.int _ _, .int _ _]) H0 rfl rfl rfl) rfl rfl ?_
  rintro _ w2 ⟨b1, rfl, H3⟩
  refine ry (y_asg rfl rfl) rfl rfl ?_
  refine ry (y_asg rfl rfl) rfl rfl ?_
  refine reg_nil ?_
  refine fn_next ?_
  refine cw_seq ?_
  refine cw_seq ?_
  refine cw_reg ?_
  refine ry (y_mov rfl rfl) rfl rfl ?_
  refine ry (y_ldb (i := 0) (cs := [_, _]) H3 rfl rfl kfslab1_32 rfl rfl) rfl rfl ?_
  refine reg_op (op_call (slabSpot_any x y _) rfl kfslab1_33 ⟨rfl, trivial⟩) rfl rfl ?_
  rintro _ w5 ⟨rfl, e4⟩
  have H6 := H3.ext e4
  refine reg_op (op_call (slabCheck_any b a h _ x y x y _ (hs.below H6.base)) rfl kfslab1_34 ⟨rfl, rfl, trivial⟩) rfl rfl ?_
  rintro _ w8 ⟨rfl, e7⟩
  have H9 := H6.ext e7
  refine ry (y_asg rfl rfl) rfl rfl ?_
  refine reg_nil ?_
  refine fn_next ?_
  refine cw_seq ?_
  refine cw_reg ?_
  refine ry (y_mov rfl rfl) rfl rfl ?_
  refine ry (y_neq rfl rfl rfl) rfl rfl ?_
  refine reg_nil ?_
  refine fn_next ?_
  refine cw_condd rfl (fun h10 => ?_) (fun h10 => ?_)
  · skip
    refine cw_seq ?_
    refine cw_reg ?_
    refine ry (y_mov rfl rfl) rfl rfl ?_
    refine ry (y_asg rfl rfl) rfl rfl ?_
    refine ry (y_asg rfl rfl) rfl rfl ?_
    refine reg_nil ?_
    refine fn_next ?_
    refine cw_ret ?_
    refine fn_then_ret ?_
    refine fn_retn (vs := [_, _]) rfl ⟨rfl, rfl, trivial⟩ rfl ?_
    rw [atV_no hw]
    exact ⟨rfl, H9.base⟩
  · exact absurd (Classical.not_not.1 h10) hw

set_option maxRecDepth 100000 in
theorem slabAt_flat (b a h : Nat) (u : Int) (x y : Int) (w : World) (p : sizeP a h) (hu : B32 u) (hs : Rd w (some ⟨b, 0, none⟩) [.int .i64 (a : Int), .int .i64 (h : Int), .iface 120 (.int .i32 u)]) (hw : atC a h x y = 0) :
    Ret Try.prog 39 [pt (some ⟨b, 0, none⟩) 0, .agg #[.int .i64 x, .int .i64 y]] w (fun v w' => v = .tuple #[.int .i64 (atV ((Ld.flat u).lst (a * h)) a h x y), .int .i64 (atC a h x y)] ∧ Below w.heap.size w w') := by
  obtain ⟨x, y, rfl, rfl, hx, hy⟩ := at_nat p hw
  obtain ⟨e1, e2, e3⟩ := row_bd p hx hy
  refine ret_enter Try.func39 rfl rfl rfl ?_
  have H0 := HS.start w
  refine cw_seq ?_
  refine cw_reg ?_
  refine reg_op (op_box (cs := [.int _ _, .int _ _]) H0 rfl rfl rfl) rfl rfl ?_
  rintro _ w2 ⟨b1, rfl, H3⟩
  refine ry (y_asg rfl rfl) rfl rfl ?_
  refine ry (y_asg rfl rfl) rfl rfl ?_
  refine reg_nil ?_
  refine fn_next ?_
  refine cw_seq ?_
  refine cw_seq ?_
  refine cw_reg ?_
  refine ry (y_mov rfl rfl) rfl rfl ?_
  refine ry (y_ldb (i := 0) (cs := [_, _]) H3 rfl rfl kfslab1_32 rfl rfl) rfl rfl ?_
  refine reg_op (op_call (slabSpot_any x y _) rfl kfslab1_33 ⟨rfl, trivial⟩) rfl rfl ?_
  rintro _ w5 ⟨rfl, e4⟩
  have H6 := H3.ext e4
  refine reg_op (op_call (slabCheck_any b a h _ x y x y _ (hs.below H6.base)) rfl kfslab1_34 ⟨rfl, rfl, trivial⟩) rfl rfl ?_
  rintro _ w8 ⟨rfl, e7⟩
  have H9 := H6.ext e7
  refine ry (y_asg rfl rfl) rfl rfl ?_
  refine reg_nil ?_
  refine fn_next ?_
  refine cw_seq ?_
  refine cw_reg ?_
  refine ry (y_mov rfl rfl) rfl rfl ?_
  refine ry (y_neq rfl rfl rfl) rfl rfl ?_
  refine reg_nil ?_
  refine fn_next ?_
  refine cw_condd rfl (fun h10 => ?_) (fun h10 => ?_)
  · exact absurd hw h10
  · skip
    refine cw_skip ?_
    refine fn_next ?_
    refine cw_seq ?_
    refine cw_draw H9 [0, 1, 2, 3, 4, 5, 6, 7, 8, 9, 10, 11, 12, 13, 14, 15, 16, 17, 18] [] (fun X HX => HX) (by kernel_rfl) (by kernel_rfl) (by rfl) ?_
    simp only [pick, List.getElem?_cons_succ, List.getElem?_cons_zero]
    refine hk_y (fun Y HY => y_mov rfl rfl) rfl rfl ?_
    refine hk_y (fun Y HY => y_nilck rfl rfl) rfl rfl ?_
    refine hk_y (fun Y HY => y_far (hs.below HY.base) rfl rfl kfslab1_19 rfl (rfl)) rfl rfl ?_
    refine hk_y (fun Y HY => y_ldr (hs.below HY.base) rfl rfl kfslab1_20 (rfl)) rfl rfl ?_
    refine hk_y (fun Y HY => y_fa rfl rfl kfslab1_17 rfl) rfl rfl ?_
    refine hk_y (fun Y HY => y_ld rfl rfl kfslab1_12 (HY.cell (i := 0) rfl rfl)) rfl rfl ?_
    refine hk_y (fun Y HY => y_mov rfl rfl) rfl rfl ?_
    refine hk_y (fun Y HY => y_nilck rfl rfl) rfl rfl ?_
    refine hk_y (fun Y HY => y_far (hs.below HY.base) rfl rfl kfslab1_11 rfl (rfl)) rfl rfl ?_
    refine hk_y (fun Y HY => y_ldr (hs.below HY.base) rfl rfl kfslab1_12 (rfl)) rfl rfl ?_
    refine hk_y (fun Y HY => y_mul rfl rfl rfl (show _ = ((y * a : Nat) : Int) from by rw [e1]; exact wi (by omega))) rfl rfl ?_
    refine hk_y (fun Y HY => y_fa rfl rfl kfslab1_16 rfl) rfl rfl ?_
    refine hk_y (fun Y HY => y_ld rfl rfl kfslab1_12 (HY.cell (i := 0) rfl rfl)) rfl rfl ?_
    refine hk_y (fun Y HY => y_add rfl rfl rfl (show _ = ((y * a + x : Nat) : Int) from by rw [← Int.natCast_add]; exact wi (by omega))) rfl rfl ?_
    refine hk_y (fun Y HY => y_nilcki rfl rfl) rfl rfl ?_
    refine hk_y (fun Y HY => y_mov rfl rfl) rfl rfl ?_
    refine hk_q (qy_inv (fun Y HY => flatAt_any u _ _ hu) rfl kfslab1_25 kfslab1_26 kfslab1_27 rfl ⟨rfl, trivial⟩) rfl rfl ?_
    refine hk_y (fun Y HY => y_asg rfl rfl) rfl rfl ?_
    refine hk_y (fun Y HY => y_asg rfl rfl) rfl rfl ?_
    refine hk_nil ?_
    intro w11 H12
    refine tv_nil ?_
    refine fn_next ?_
    refine cw_ret ?_
    refine fn_retn (vs := [_, _]) rfl ⟨rfl, rfl, trivial⟩ rfl ?_
    rw [atV_ok hw, show nth ((Ld.flat u).lst (a * h)) (y * a + x) = u from nth_rep e2, hw]
    exact ⟨rfl, H12.base⟩

set_option maxRecDepth 100000 in
theorem slabAt_rough (b a h : Nat) (A : Option Addr) (cap : Nat) (V : List Int) (x y : Int) (w : World) (p : sizeP a h) (hL : (Ld.rough A cap V).ok (a * h)) (hr : Rd w A (vi .i32 V)) (hs : Rd w (some ⟨b, 0, none⟩) [.int .i64 (a : Int), .int .i64 (h : Int), .iface 129 (.slice A (a * h) cap)]) (hw : atC a h x y = 0) :
    Ret Try.prog 39 [pt (some ⟨b, 0, none⟩) 0, .agg #[.int .i64 x, .int .i64 y]] w (fun v w' => v = .tuple #[.int .i64 (atV ((Ld.rough A cap V).lst (a * h)) a h x y), .int .i64 (atC a h x y)] ∧ Below w.heap.size w w') := by
  obtain ⟨x, y, rfl, rfl, hx, hy⟩ := at_nat p hw
  obtain ⟨e1, e2, e3⟩ := row_bd p hx hy
  refine ret_enter Try.func39 rfl rfl rfl ?_
  have H0 := HS.start w
  refine cw_seq ?_
  refine cw_reg ?_
  refine reg_op (op_box (cs := [.int _ _, .int _ _]) H0 rfl rfl rfl) rfl rfl ?_
  rintro _ w2 ⟨b1, rfl, H3⟩
  refine ry (y_asg rfl rfl) rfl rfl ?_
  refine ry (y_asg rfl rfl) rfl rfl ?_
  refine reg_nil ?_
  refine fn_next ?_
  refine cw_seq ?_
  refine cw_seq ?_
  refine cw_reg ?_
  refine ry (y_mov rfl rfl) rfl rfl ?_
  refine ry (y_ldb (i := 0) (cs := [_, _]) H3 rfl rfl kfslab1_32 rfl rfl) rfl rfl ?_
  refine reg_op (op_call (slabSpot_any x y _) rfl kfslab1_33 ⟨rfl, trivial⟩) rfl rfl ?_
  rintro _ w5 ⟨rfl, e4⟩
  have H6 := H3.ext e4
  refine reg_op (op_call (slabCheck_any b a h _ x y x y _ (hs.below H6.base)) rfl kfslab1_34 ⟨rfl, rfl, trivial⟩) rfl rfl ?_
  rintro _ w8 ⟨rfl, e7⟩
  have H9 := H6.ext e7
  refine ry (y_asg rfl rfl) rfl rfl ?_
  refine reg_nil ?_
  refine fn_next ?_
  refine cw_seq ?_
  refine cw_reg ?_
  refine ry (y_mov rfl rfl) rfl rfl ?_
  refine ry (y_neq rfl rfl rfl) rfl rfl ?_
  refine reg_nil ?_
  refine fn_next ?_
  refine cw_condd rfl (fun h10 => ?_) (fun h10 => ?_)
  · exact absurd hw h10
  · skip
    refine cw_skip ?_
    refine fn_next ?_
    refine cw_seq ?_
    refine cw_draw H9 [0, 1, 2, 3, 4, 5, 6, 7, 8, 9, 10, 11, 12, 13, 14, 15, 16, 17, 18] [] (fun X HX => HX) (by kernel_rfl) (by kernel_rfl) (by rfl) ?_
    simp only [pick, List.getElem?_cons_succ, List.getElem?_cons_zero]
    refine hk_y (fun Y HY => y_mov rfl rfl) rfl rfl ?_
    refine hk_y (fun Y HY => y_nilck rfl rfl) rfl rfl ?_
    refine hk_y (fun Y HY => y_far (hs.below HY.base) rfl rfl kfslab1_19 rfl (rfl)) rfl rfl ?_
    refine hk_y (fun Y HY => y_ldr (hs.below HY.base) rfl rfl kfslab1_20 (rfl)) rfl rfl ?_
    refine hk_y (fun Y HY => y_fa rfl rfl kfslab1_17 rfl) rfl rfl ?_
    refine hk_y (fun Y HY => y_ld rfl rfl kfslab1_12 (HY.cell (i := 0) rfl rfl)) rfl rfl ?_
    refine hk_y (fun Y HY => y_mov rfl rfl) rfl rfl ?_
    refine hk_y (fun Y HY => y_nilck rfl rfl) rfl rfl ?_
    refine hk_y (fun Y HY => y_far (hs.below HY.base) rfl rfl kfslab1_11 rfl (rfl)) rfl rfl ?_
    refine hk_y (fun Y HY => y_ldr (hs.below HY.base) rfl rfl kfslab1_12 (rfl)) rfl rfl ?_
    refine hk_y (fun Y HY => y_mul rfl rfl rfl (show _ = ((y * a : Nat) : Int) from by rw [e1]; exact wi (by omega))) rfl rfl ?_
    refine hk_y (fun Y HY => y_fa rfl rfl kfslab1_16 rfl) rfl rfl ?_
    refine hk_y (fun Y HY => y_ld rfl rfl kfslab1_12 (HY.cell (i := 0) rfl rfl)) rfl rfl ?_
    refine hk_y (fun Y HY => y_add rfl rfl rfl (show _ = ((y * a + x : Nat) : Int) from by rw [← Int.natCast_add]; exact wi (by omega))) rfl rfl ?_
    refine hk_y (fun Y HY => y_nilcki rfl rfl) rfl rfl ?_
    refine hk_y (fun Y HY => y_mov rfl rfl) rfl rfl ?_
    refine hk_q (qy_inv (fun Y HY => roughAt_any A (a * h) cap (y * a + x) V _ (hr.below HY.base) hL.1 (by omega) hL.2.1) rfl kfslab1_35 kfslab1_36 kfslab1_37 rfl ⟨rfl, trivial⟩) rfl rfl ?_
    refine hk_y (fun Y HY => y_asg rfl rfl) rfl rfl ?_
    refine hk_y (fun Y HY => y_asg rfl rfl) rfl rfl ?_
    refine hk_nil ?_
    intro w11 H12
    refine tv_nil ?_
    refine fn_next ?_
    refine cw_ret ?_
    refine fn_retn (vs := [_, _]) rfl ⟨rfl, rfl, trivial⟩ rfl ?_
    rw [atV_ok hw, hw]
    exact ⟨rfl, H12.base⟩

theorem slabAt_any (b a h : Nat) (L : Ld) (x y : Int) (w : World) (p : sizeP a h) (hL : L.ok (a * h)) (hr : L.rd w) (hs : Rd w (some ⟨b, 0, none⟩) [.int .i64 (a : Int), .int .i64 (h : Int), L.val (a * h)]) : Ret Try.prog 39 [pt (some ⟨b, 0, none⟩) 0, .agg #[.int .i64 x, .int .i64 y]] w (fun v w' => v = .tuple #[.int .i64 (atV (L.lst (a * h)) a h x y), .int .i64 (atC a h x y)] ∧ Below w.heap.size w w') := by
  by_cases hw : atC a h x y = 0
  · cases L with
    | flat u => exact slabAt_flat b a h u x y w p hL hs hw
    | rough A cap V => exact slabAt_rough b a h A cap V x y w p hL hr hs hw
  · exact slabAt_no b a h _ x y _ w hs hw

set_option maxRecDepth 100000 in
theorem slabCells_flat (b a h : Nat) (u : Int) (w : World) (p : sizeP a h) (hu : B32 u) (hs : Rd w (some ⟨b, 0, none⟩) [.int .i64 (a : Int), .int .i64 (h : Int), .iface 120 (.int .i32 u)]) :
    Ret Try.prog 28 [pt (some ⟨b, 0, none⟩) 0] w (fun v w' => ∃ A' cap', v = .slice A' (a * h) cap' ∧ HS w w' [.row A' (a * h) cap' (vi .i64 ((Ld.flat u).lst (a * h))) 2 1]) := by
  have hm := p.mul
  have hll : ((Ld.flat u).lst (a * h)).length = a * h := Ld.len (L := .flat u) hu
  obtain ⟨p1, p2, p3, p4⟩ := id p
  refine ret_enter Try.func28 rfl rfl rfl ?_
  have H0 := HS.start w
  refine cw_seq ?_
  refine cw_reg ?_
  refine ry (y_asg rfl rfl) rfl rfl ?_
  refine reg_nil ?_
  refine fn_next ?_
  refine cw_seq ?_
  refine cw_seq ?_
  refine cw_reg ?_
  refine ry (y_mov rfl rfl) rfl rfl ?_
  refine ry (y_peqlnil rfl Try.underlying51 rfl rfl) rfl rfl ?_
  refine reg_nil ?_
  refine fn_next ?_
  refine cw_condf rfl ?_
  refine cw_skip ?_
  refine fn_next ?_
  refine cw_seq ?_
  refine cw_draw H0 [0, 1, 2, 3, 4, 5, 6, 7, 8] [9, 10] (fun X HX => HX) (by kernel_rfl) (by kernel_rfl) (by rfl) ?_
  simp only [pick, List.getElem?_cons_succ, List.getElem?_cons_zero]
  refine hk_y (fun Y HY => y_mov rfl rfl) rfl rfl ?_
  refine hk_y (fun Y HY => y_nilck rfl rfl) rfl rfl ?_
  refine hk_y (fun Y HY => y_far (hs.below HY.base) rfl rfl kfslab1_11 rfl (rfl)) rfl rfl ?_
  refine hk_y (fun Y HY => y_ldr (hs.below HY.base) rfl rfl kfslab1_12 (rfl)) rfl rfl ?_
  refine hk_y (fun Y HY => y_mov rfl rfl) rfl rfl ?_
  refine hk_y (fun Y HY => y_nilck rfl rfl) rfl rfl ?_
  refine hk_y (fun Y HY => y_far (hs.below HY.base) rfl rfl kfslab1_13 rfl (rfl)) rfl rfl ?_
  refine hk_y (fun Y HY => y_ldr (hs.below HY.base) rfl rfl kfslab1_12 (rfl)) rfl rfl ?_
  refine hk_y (fun Y HY => y_mul rfl rfl rfl (show _ = ((a * h : Nat) : Int) from by rw [← Int.natCast_mul]; exact wi (by omega))) rfl rfl ?_
  refine hk_nil ?_
  intro w1 H2
  refine tv_op (op_make (m := (a * h)) H2 rfl rfl rfl (rfl) (rfl) Try.underlying32 kfslab1_38 (by omega) (by unfold maxLen; omega)) rfl rfl ?_
  rintro _ w4 ⟨b3, rfl, H5⟩
  refine ⟨(H5.pick (m := []) [] rfl (by decide)), fun w6 e8 => ?_⟩
  have H7 := H5.ext e8
  refine tv_op (Yd.op (y_asg rfl rfl)) rfl rfl ?_
  rintro _ _ ⟨rfl, rfl⟩
  refine ⟨(H7.pick (m := []) [] rfl (by decide)), fun w9 e11 => ?_⟩
  have H10 := H7.ext e11
  refine tv_nil ?_
  refine fn_next ?_
  refine cw_seq ?_
  refine cw_seq ?_
  refine cw_reg ?_
  refine ry (y_mov rfl rfl) rfl rfl ?_
  refine ry (y_len rfl Try.underlying32 rfl) rfl rfl ?_
  refine ry (y_mov rfl rfl) rfl rfl ?_
  refine reg_nil ?_
  refine fn_next ?_
  refine cw_block ?_
  rw [vi_zero, ← cpT_zero (V := (Ld.flat u).lst (a * h))] at H10
  refine cw_loopJ [4, 19, 20, 21, 22, 23, 24, 25, 26, 27, 28, 29, 30, 31] (fun M wl ml => ∃ (i : Nat), M = [(19, .int .i64 (i : Int))] ∧ HS w wl [Ob.row (some ⟨b3, 0, none⟩) (a * h) (a * h) (vi .i64 (cpT ((Ld.flat u).lst (a * h)) (a * h) i)) 2 1] ∧ (i ≤ a * h) ∧ ml = a * h - i) ⟨0, rfl, H10, Nat.zero_le _, rfl⟩ ⟨rfl, trivial⟩ ?_
  rintro M w12 m14 ⟨i, rfl, H13, hp0, rfl⟩
  refine cw_seq ?_
  refine cw_reg ?_
  refine ry (y_lss rfl rfl rfl) rfl rfl ?_
  refine reg_nil ?_
  refine fn_next ?_
  refine cw_seq ?_
  refine cw_condd rfl (fun h15 => ?_) (fun h15 => ?_)
  · skip
    refine cw_skip ?_
    refine fn_next ?_
    refine cw_seq ?_
    refine cw_block ?_
    refine cw_seq ?_
    refine cw_reg ?_
    refine ry (y_mov rfl rfl) rfl rfl ?_
    refine ry (y_asg rfl rfl) rfl rfl ?_
    refine reg_nil ?_
    refine fn_next ?_
    refine cw_reg ?_
    refine ry (y_mov rfl rfl) rfl rfl ?_
    refine ry (y_mov rfl rfl) rfl rfl ?_
    refine ry (y_mov rfl rfl) rfl rfl ?_
    refine ry (y_nilck rfl rfl) rfl rfl ?_
    refine ry (y_far (hs.below H13.base) rfl rfl kfslab1_19 rfl (rfl)) rfl rfl ?_
    refine ry (y_ldr (hs.below H13.base) rfl rfl kfslab1_20 (rfl)) rfl rfl ?_
    refine ry (y_mov rfl rfl) rfl rfl ?_
    refine reg_op (op_inv (flatAt_any u _ _ hu) rfl kfslab1_25 kfslab1_26 kfslab1_27 rfl ⟨rfl, trivial⟩) rfl rfl ?_
    rintro _ w17 ⟨rfl, e16⟩
    have H18 := H13.ext e16
    refine ry (y_iar (H18.rd (i := 0) rfl) rfl rfl rfl kfslab1_39 (rfl) (by omega) (Nat.mul_one _) (vi_get (k := .i64) (zs := cpT ((Ld.flat u).lst (a * h)) (a * h) i) (i := i) (by rw [cpT_len hll (by omega)]; omega))) rfl rfl ?_
    refine reg_op (op_ste (i := 0) (vs := [.int _ _]) H18 rfl rfl rfl rfl rfl kfslab1_40 rfl (by rw [vi_len, cpT_len hll (by omega)]; exact (by omega : i + 1 ≤ a * h)) rfl rfl) rfl rfl ?_
    rintro _ w19 H20
    refine reg_nil ?_
    refine fn_block ?_
    refine fn_next ?_
    refine cw_reg ?_
    refine ry (y_add rfl rfl rfl (wi (by omega))) rfl rfl ?_
    refine ry (y_mov rfl rfl) rfl rfl ?_
    refine reg_nil ?_
    have hst : (cpT ((Ld.flat u).lst (a * h)) (a * h) i).set i u = cpT ((Ld.flat u).lst (a * h)) (a * h) (i + 1) := by have := cpT_set (i := i) hll (by omega); rwa [(show nth ((Ld.flat u).lst (a * h)) i = u from nth_rep (by omega))] at this
    rw [vi_set, hst] at H20
    refine fn_roundJ ⟨i + 1, rfl, H20, by omega, rfl⟩ ⟨rfl, trivial⟩ (by omega) (by repeat (first | exact kp_refl | refine kp_app rfl rfl ?_ | refine kp_cons rfl ?_)) rfl
  · skip
    have hie : i = a * h := by omega
    subst hie
    refine cw_exit ?_
    refine fn_then_exit (fn_then_exit (fn_block_exit ?_))
    refine fn_next ?_
    refine cw_seq ?_
    refine cw_reg ?_
    refine ry (y_mov rfl rfl) rfl rfl ?_
    refine ry (y_asg rfl rfl) rfl rfl ?_
    refine reg_nil ?_
    refine fn_next ?_
    refine cw_ret ?_
    refine fn_ret1 rfl rfl ?_
    rw [cpT_full hll] at H13
    exact ⟨_, _, rfl, H13⟩

set_option maxRecDepth 100000 in
theorem slabCells_rough (b a h : Nat) (A : Option Addr) (cap : Nat) (V : List Int) (w : World) (p : sizeP a h) (hL : (Ld.rough A cap V).ok (a * h)) (hr : Rd w A (vi .i32 V)) (hs : Rd w (some ⟨b, 0, none⟩) [.int .i64 (a : Int), .int .i64 (h : Int), .iface 129 (.slice A (a * h) cap)]) :
    Ret Try.prog 28 [pt (some ⟨b, 0, none⟩) 0] w (fun v w' => ∃ A' cap', v = .slice A' (a * h) cap' ∧ HS w w' [.row A' (a * h) cap' (vi .i64 ((Ld.rough A cap V).lst (a * h))) 2 1]) := by
  have hm := p.mul
  have hll : ((Ld.rough A cap V).lst (a * h)).length = a * h := hL.1
  obtain ⟨p1, p2, p3, p4⟩ := id p
  refine ret_enter Try.func28 rfl rfl rfl ?_
  have H0 := HS.start w
  refine cw_seq ?_
  refine cw_reg ?_
  refine ry (y_asg rfl rfl) rfl rfl ?_
  refine reg_nil ?_
  refine fn_next ?_
  refine cw_seq ?_
  refine cw_seq ?_
  refine cw_reg ?_
  refine ry (y_mov rfl rfl) rfl rfl ?_
  refine ry (y_peqlnil rfl Try.underlying51 rfl rfl) rfl rfl ?_
  refine reg_nil ?_
  refine fn_next ?_
  refine cw_condf rfl ?_
  refine cw_skip ?_
  refine fn_next ?_
  refine cw_seq ?_
  refine cw_draw H0 [0, 1, 2, 3, 4, 5, 6, 7, 8] [9, 10] (fun X HX => HX) (by kernel_rfl) (by kernel_rfl) (by rfl) ?_
  simp only [pick, List.getElem?_cons_succ, List.getElem?_cons_zero]
  refine hk_y (fun Y HY => y_mov rfl rfl) rfl rfl ?_
  refine hk_y (fun Y HY => y_nilck rfl rfl) rfl rfl ?_
  refine hk_y (fun Y HY => y_far (hs.below HY.base) rfl rfl kfslab1_11 rfl (rfl)) rfl rfl ?_
  refine hk_y (fun Y HY => y_ldr (hs.below HY.base) rfl rfl kfslab1_12 (rfl)) rfl rfl ?_
  refine hk_y (fun Y HY => y_mov rfl rfl) rfl rfl ?_
  refine hk_y (fun Y HY => y_nilck rfl rfl) rfl rfl ?_
  refine hk_y (fun Y HY => y_far (hs.below HY.base) rfl rfl kfslab1_13 rfl (rfl)) rfl rfl ?_
  refine hk_y (fun Y HY => y_ldr (hs.below HY.base) rfl rfl kfslab1_12 (rfl)) rfl rfl ?_
  refine hk_y (fun Y HY => y_mul rfl rfl rfl (show _ = ((a * h : Nat) : Int) from by rw [← Int.natCast_mul]; exact wi (by omega))) rfl rfl ?_
  refine hk_nil ?_
  intro w1 H2
  refine tv_op (op_make (m := (a * h)) H2 rfl rfl rfl (rfl) (rfl) Try.underlying32 kfslab1_38 (by omega) (by unfold maxLen; omega)) rfl rfl ?_
  rintro _ w4 ⟨b3, rfl, H5⟩
  refine ⟨(H5.pick (m := []) [] rfl (by decide)), fun w6 e8 => ?_⟩
  have H7 := H5.ext e8
  refine tv_op (Yd.op (y_asg rfl rfl)) rfl rfl ?_
  rintro _ _ ⟨rfl, rfl⟩
  refine ⟨(H7.pick (m := []) [] rfl (by decide)), fun w9 e11 => ?_⟩
  have H10 := H7.ext e11
  refine tv_nil ?_
  refine fn_next ?_
  refine cw_seq ?_
  refine cw_seq ?_
  refine cw_reg ?_
  refine ry (y_mov rfl rfl) rfl rfl ?_
  refine ry (y_len rfl Try.underlying32 rfl) rfl rfl ?_
  refine ry (y_mov rfl rfl) rfl rfl ?_
  refine reg_nil ?_
  refine fn_next ?_
  refine cw_block ?_
  rw [vi_zero, ← cpT_zero (V := (Ld.rough A cap V).lst (a * h))] at H10
  refine cw_loopJ [4, 19, 20, 21, 22, 23, 24, 25, 26, 27, 28, 29, 30, 31] (fun M wl ml => ∃ (i : Nat), M = [(19, .int .i64 (i : Int))] ∧ HS w wl [Ob.row (some ⟨b3, 0, none⟩) (a * h) (a * h) (vi .i64 (cpT ((Ld.rough A cap V).lst (a * h)) (a * h) i)) 2 1] ∧ (i ≤ a * h) ∧ ml = a * h - i) ⟨0, rfl, H10, Nat.zero_le _, rfl⟩ ⟨rfl, trivial⟩ ?_
  rintro M w12 m14 ⟨i, rfl, H13, hp0, rfl⟩
  refine cw_seq ?_
  refine cw_reg ?_
  refine ry (y_lss rfl rfl rfl) rfl rfl ?_
  refine reg_nil ?_
  refine fn_next ?_
  refine cw_seq ?_
  refine cw_condd rfl (fun h15 => ?_) (fun h15 => ?_)
  · skip
    refine cw_skip ?_
    refine fn_next ?_
    refine cw_seq ?_
    refine cw_block ?_
    refine cw_seq ?_
    refine cw_reg ?_
    refine ry (y_mov rfl rfl) rfl rfl ?_
    refine ry (y_asg rfl rfl) rfl rfl ?_
    refine reg_nil ?_
    refine fn_next ?_
    refine cw_reg ?_
    refine ry (y_mov rfl rfl) rfl rfl ?_
    refine ry (y_mov rfl rfl) rfl rfl ?_
    refine ry (y_mov rfl rfl) rfl rfl ?_
    refine ry (y_nilck rfl rfl) rfl rfl ?_
    refine ry (y_far (hs.below H13.base) rfl rfl kfslab1_19 rfl (rfl)) rfl rfl ?_
    refine ry (y_ldr (hs.below H13.base) rfl rfl kfslab1_20 (rfl)) rfl rfl ?_
    refine ry (y_mov rfl rfl) rfl rfl ?_
    refine reg_op (op_inv (roughAt_any A (a * h) cap i V _ (hr.below H13.base) hL.1 (by omega) hL.2.1) rfl kfslab1_35 kfslab1_36 kfslab1_37 rfl ⟨rfl, trivial⟩) rfl rfl ?_
    rintro _ w17 ⟨rfl, e16⟩
    have H18 := H13.ext e16
    refine ry (y_iar (H18.rd (i := 0) rfl) rfl rfl rfl kfslab1_39 (rfl) (by omega) (Nat.mul_one _) (vi_get (k := .i64) (zs := cpT ((Ld.rough A cap V).lst (a * h)) (a * h) i) (i := i) (by rw [cpT_len hll (by omega)]; omega))) rfl rfl ?_
    refine reg_op (op_ste (i := 0) (vs := [.int _ _]) H18 rfl rfl rfl rfl rfl kfslab1_40 rfl (by rw [vi_len, cpT_len hll (by omega)]; exact (by omega : i + 1 ≤ a * h)) rfl rfl) rfl rfl ?_
    rintro _ w19 H20
    refine reg_nil ?_
    refine fn_block ?_
    refine fn_next ?_
    refine cw_reg ?_
    refine ry (y_add rfl rfl rfl (wi (by omega))) rfl rfl ?_
    refine ry (y_mov rfl rfl) rfl rfl ?_
    refine reg_nil ?_
    have hst : (cpT ((Ld.rough A cap V).lst (a * h)) (a * h) i).set i (nth V i) = cpT ((Ld.rough A cap V).lst (a * h)) (a * h) (i + 1) := cpT_set hll (by omega)
    rw [vi_set, hst] at H20
    refine fn_roundJ ⟨i + 1, rfl, H20, by omega, rfl⟩ ⟨rfl, trivial⟩ (by omega) (by repeat (first | exact kp_refl | refine kp_app rfl rfl ?_ | refine kp_cons rfl ?_)) rfl
  · skip
    have hie : i = a * h := by omega
    subst hie
    refine cw_exit ?_
    refine fn_then_exit (fn_then_exit (fn_block_exit ?_))
    refine fn_next ?_
    refine cw_seq ?_
    refine cw_reg ?_
    refine ry (y_mov rfl rfl) rfl rfl ?_
    refine ry (y_asg rfl rfl) rfl rfl ?_
    refine reg_nil ?_
    refine fn_next ?_
    refine cw_ret ?_
    refine fn_ret1 rfl rfl ?_
    rw [cpT_full hll] at H13
    exact ⟨_, _, rfl, H13⟩

theorem slabCells_any (b a h : Nat) (L : Ld) (w : World) (p : sizeP a h) (hL : L.ok (a * h)) (hr : L.rd w) (hs : Rd w (some ⟨b, 0, none⟩) [.int .i64 (a : Int), .int .i64 (h : Int), L.val (a * h)]) : Ret Try.prog 28 [pt (some ⟨b, 0, none⟩) 0] w (fun v w' => ∃ A' cap', v = .slice A' (a * h) cap' ∧ HS w w' [.row A' (a * h) cap' (vi .i64 (L.lst (a * h))) 2 1]) := by
  cases L with
  | flat u => exact slabCells_flat b a h u w p hL hs
  | rough A cap V => exact slabCells_rough b a h A cap V w p hL hr hs

set_option maxRecDepth 100000 in
theorem slabCopy_flat (b a h : Nat) (u : Int) (w : World) (p : sizeP a h) (hu : B32 u) (hs : Rd w (some ⟨b, 0, none⟩) [.int .i64 (a : Int), .int .i64 (h : Int), .iface 120 (.int .i32 u)]) :
    Ret Try.prog 29 [pt (some ⟨b, 0, none⟩) 0] w (fun v w' => ∃ (c : Nat) (L' : Ld), v = .pointer (some ⟨c, 0, none⟩) ∧ HS w w' [.blk c [.int .i64 (a : Int), .int .i64 (h : Int), L'.val (a * h)] 124, L'.ob (a * h)] ∧ L'.ok (a * h) ∧ L'.lst (a * h) = (Ld.flat u).lst (a * h)) := by
  refine ret_enter Try.func29 rfl rfl rfl ?_
  have H0 := HS.start w
  refine cw_seq ?_
  refine cw_reg ?_
  refine ry (y_asg rfl rfl) rfl rfl ?_
  refine reg_nil ?_
  refine fn_next ?_
  refine cw_seq ?_
  refine cw_seq ?_
  refine cw_reg ?_
  refine ry (y_mov rfl rfl) rfl rfl ?_
  refine ry (y_peqlnil rfl Try.underlying51 rfl rfl) rfl rfl ?_
  refine reg_nil ?_
  refine fn_next ?_
  refine cw_condf rfl ?_
  refine cw_skip ?_
  refine fn_next ?_
  refine cw_seq ?_
  refine cw_reg ?_
  refine ry (y_mov rfl rfl) rfl rfl ?_
  refine ry (y_nilck rfl rfl) rfl rfl ?_
  refine ry (y_ldra (cs := [_, _, _]) (hs.below H0.base) rfl rfl kfslab1_41 rfl (by decide) (fun j v h => by rw [Nat.zero_add]; exact h)) rfl rfl ?_
  refine reg_op (op_alloc H0 rfl kfslab1_9) rfl rfl ?_
  rintro _ w2 ⟨b1, rfl, H3⟩
  refine reg_op (op_st (i := 0) (vs := [.int _ _, .int _ _, _]) H3 rfl rfl rfl rfl rfl kfslab1_42 rfl rfl rfl) rfl rfl ?_
  rintro _ w4 H5
  refine reg_nil ?_
  refine fn_next ?_
  refine cw_seq ?_
  refine cw_seq ?_
  refine cw_reg ?_
  refine ry (y_mov rfl rfl) rfl rfl ?_
  refine ry (y_nilck rfl rfl) rfl rfl ?_
  refine ry (y_far (hs.below H5.base) rfl rfl kfslab1_19 rfl (rfl)) rfl rfl ?_
  refine ry (y_ldr (hs.below H5.base) rfl rfl kfslab1_20 (rfl)) rfl rfl ?_
  refine ry (y_tano rfl kfslab1_23 rfl kfslab1_24 rfl) rfl rfl ?_
  refine ry (y_mov rfl rfl) rfl rfl ?_
  refine ry (y_ext rfl rfl rfl) rfl rfl ?_
  refine ry (y_ext rfl rfl rfl) rfl rfl ?_
  refine ry (y_asg rfl rfl) rfl rfl ?_
  refine ry (y_asg rfl rfl) rfl rfl ?_
  refine reg_nil ?_
  refine fn_next ?_
  refine cw_seq ?_
  refine cw_reg ?_
  refine ry (y_mov rfl rfl) rfl rfl ?_
  refine reg_nil ?_
  refine fn_next ?_
  refine cw_condf rfl ?_
  refine cw_skip ?_
  refine fn_next ?_
  refine cw_seq ?_
  refine cw_reg ?_
  refine ry (y_asg rfl rfl) rfl rfl ?_
  refine reg_nil ?_
  refine fn_next ?_
  refine cw_ret ?_
  refine fn_ret1 rfl rfl ?_
  exact ⟨_, .flat u, rfl, (H5.nilrow _ _).pick [1, 0] rfl (by decide), hu, rfl⟩

set_option maxRecDepth 100000 in
theorem slabCopy_rough (b a h : Nat) (A : Option Addr) (cap : Nat) (V : List Int) (w : World) (p : sizeP a h) (hL : (Ld.rough A cap V).ok (a * h)) (hr : Rd w A (vi .i32 V)) (hs : Rd w (some ⟨b, 0, none⟩) [.int .i64 (a : Int), .int .i64 (h : Int), .iface 129 (.slice A (a * h) cap)]) :
    Ret Try.prog 29 [pt (some ⟨b, 0, none⟩) 0] w (fun v w' => ∃ (c : Nat) (L' : Ld), v = .pointer (some ⟨c, 0, none⟩) ∧ HS w w' [.blk c [.int .i64 (a : Int), .int .i64 (h : Int), L'.val (a * h)] 124, L'.ob (a * h)] ∧ L'.ok (a * h) ∧ L'.lst (a * h) = (Ld.rough A cap V).lst (a * h)) := by
  have hm := p.mul
  refine ret_enter Try.func29 rfl rfl rfl ?_
  have H0 := HS.start w
  refine cw_seq ?_
  refine cw_reg ?_
  refine ry (y_asg rfl rfl) rfl rfl ?_
  refine reg_nil ?_
  refine fn_next ?_
  refine cw_seq ?_
  refine cw_seq ?_
  refine cw_reg ?_
  refine ry (y_mov rfl rfl) rfl rfl ?_
  refine ry (y_peqlnil rfl Try.underlying51 rfl rfl) rfl rfl ?_
  refine reg_nil ?_
  refine fn_next ?_
  refine cw_condf rfl ?_
  refine cw_skip ?_
  refine fn_next ?_
  refine cw_seq ?_
  refine cw_reg ?_
  refine ry (y_mov rfl rfl) rfl rfl ?_
  refine ry (y_nilck rfl rfl) rfl rfl ?_
  refine ry (y_ldra (cs := [_, _, _]) (hs.below H0.base) rfl rfl kfslab1_41 rfl (by decide) (fun j v h => by rw [Nat.zero_add]; exact h)) rfl rfl ?_
  refine reg_op (op_alloc H0 rfl kfslab1_9) rfl rfl ?_
  rintro _ w2 ⟨b1, rfl, H3⟩
  refine reg_op (op_st (i := 0) (vs := [.int _ _, .int _ _, _]) H3 rfl rfl rfl rfl rfl kfslab1_42 rfl rfl rfl) rfl rfl ?_
  rintro _ w4 H5
  refine reg_nil ?_
  refine fn_next ?_
  refine cw_seq ?_
  refine cw_seq ?_
  refine cw_reg ?_
  refine ry (y_mov rfl rfl) rfl rfl ?_
  refine ry (y_nilck rfl rfl) rfl rfl ?_
  refine ry (y_far (hs.below H5.base) rfl rfl kfslab1_19 rfl (rfl)) rfl rfl ?_
  refine ry (y_ldr (hs.below H5.base) rfl rfl kfslab1_20 (rfl)) rfl rfl ?_
  refine ry (y_tayes rfl kfslab1_23 rfl) rfl rfl ?_
  refine ry (y_mov rfl rfl) rfl rfl ?_
  refine ry (y_ext rfl rfl rfl) rfl rfl ?_
  refine ry (y_ext rfl rfl rfl) rfl rfl ?_
  refine ry (y_asg rfl rfl) rfl rfl ?_
  refine ry (y_asg rfl rfl) rfl rfl ?_
  refine reg_nil ?_
  refine fn_next ?_
  refine cw_seq ?_
  refine cw_reg ?_
  refine ry (y_mov rfl rfl) rfl rfl ?_
  refine reg_nil ?_
  refine fn_next ?_
  refine cw_condt rfl ?_
  refine cw_reg ?_
  refine ry (y_mov rfl rfl) rfl rfl ?_
  refine reg_op (op_call (CloneR_any A (a * h) cap (vi .i32 V) _ (hr.below H5.base) (by rw [vi_len, hL.1, Nat.mul_one]) vi_one (by omega)) rfl kfslab1_43 ⟨rfl, trivial⟩) rfl rfl ?_
  rintro _ w7 ⟨A9, c10, rfl, k6⟩
  have H8 := H5.call k6
  refine ry (y_iface rfl kfslab1_23 rfl) rfl rfl ?_
  refine ry (y_fa rfl rfl kfslab1_19 rfl) rfl rfl ?_
  refine reg_op (op_st (i := 1) (vs := [_]) H8 rfl rfl rfl rfl rfl kfslab1_44 rfl rfl rfl) rfl rfl ?_
  rintro _ w11 H12
  refine reg_nil ?_
  refine fn_next ?_
  refine cw_seq ?_
  refine cw_reg ?_
  refine ry (y_asg rfl rfl) rfl rfl ?_
  refine reg_nil ?_
  refine fn_next ?_
  refine cw_ret ?_
  refine fn_ret1 rfl rfl ?_
  exact ⟨_, .rough A9 c10 V, rfl, H12.pick [1, 0] rfl (by decide), hL, rfl⟩

theorem slabCopy_any (b a h : Nat) (L : Ld) (w : World) (p : sizeP a h) (hL : L.ok (a * h)) (hr : L.rd w) (hs : Rd w (some ⟨b, 0, none⟩) [.int .i64 (a : Int), .int .i64 (h : Int), L.val (a * h)]) : Ret Try.prog 29 [pt (some ⟨b, 0, none⟩) 0] w (fun v w' => ∃ (c : Nat) (L' : Ld), v = .pointer (some ⟨c, 0, none⟩) ∧ HS w w' [.blk c [.int .i64 (a : Int), .int .i64 (h : Int), L'.val (a * h)] 124, L'.ob (a * h)] ∧ L'.ok (a * h) ∧ L'.lst (a * h) = (L).lst (a * h)) := by
  cases L with
  | flat u => exact slabCopy_flat b a h u w p hL hs
  | rough A cap V => exact slabCopy_rough b a h A cap V w p hL hr hs

end Go.Proofs.Ytkphmcaoioaglaa
