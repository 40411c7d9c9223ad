/- Texts as one: Dir0, Dir1. -/
import Derived.Test.YtbnjbgcadkdljaaGreatDoorMC
import Derived.Test.YtbnjbgcadkdljaaGreatDoorMN
import Derived.Test.YtbnjbgcadkdljaaGreatDoorME
set_option linter.unusedVariables false
set_option linter.unusedSimpArgs false
namespace Go.Proofs.YtbnjbgcadkdljaaGreatDoor
open Go Go.RowKit
theorem kfdir0_1 : (Tryz.prog.info? 54).bind (fun i => i.zero.map Value.cells) = some (List.toArray [(.int .i64 0), (.int .i64 0), (.int .i64 0), (.int .i64 0)]) := by kernel_rfl
theorem kfdir0_2 : callB Tryz.prog 35 = true := by kernel_rfl
theorem kfdir0_3 : callB Tryz.prog 92 = true := by kernel_rfl
theorem kfdir0_4 : callB Tryz.prog 57 = true := by kernel_rfl
theorem kfdir0_5 : callB Tryz.prog 43 = true := by kernel_rfl
/-! sizes -/
def badS (w h : Int) : Prop := w < 1 ∨ 1024 < w ∨ h < 1 ∨ 1024 < h
instance (w h : Int) : Decidable (badS w h) := by unfold badS; infer_instance
def tilN (w h : Int) : Int := (w + 15) / 16 * ((h + 15) / 16)
def tilS (w h : Int) : Int × Int := if badS w h then (0, 3) else (tilN w h, 0)
def sizS (w h : Int) : Int × Int := if badS w h then (0, 3) else (13 + 8 * tilN w h, 0)
theorem tilN_bd {w h : Int} (hb : ¬ badS w h) : 1 ≤ tilN w h ∧ tilN w h ≤ 4096 := by
  unfold badS at hb
  unfold tilN
  have h1 : 1 ≤ (w + 15) / 16 ∧ (w + 15) / 16 ≤ 64 := by omega
  have h2 : 1 ≤ (h + 15) / 16 ∧ (h + 15) / 16 ≤ 64 := by omega
  generalize (w + 15) / 16 = a at *
  generalize (h + 15) / 16 = b at *
  have h3 : 1 * 1 ≤ a * b := Int.mul_le_mul h1.1 h2.1 (by omega) (by omega)
  have h4 : a * b ≤ 64 * 64 := Int.mul_le_mul h1.2 h2.2 (by omega) (by omega)
  omega
theorem within_bad {w h : Int} (hb : badS w h) (hw : -9223372036854775808 ≤ w ∧ w ≤ 9223372036854775807) (hh : -9223372036854775808 ≤ h ∧ h ≤ 9223372036854775807) : withinC 0 0 0 0 w h = 3 := by
  unfold withinC
  rw [if_pos]
  unfold badS at hb
  have e : ∀ x : Int, -9223372036854775808 ≤ x ∧ x ≤ 9223372036854775807 → x < 1 ∨ 1024 < x → insideB (wrap64 (x - 1)) 1024 = false := fun x hx h => by
    unfold insideB wrap64
    simp
    omega
  rcases hb with h1 | h1 | h1 | h1
  · exact .inl (e w hw (.inl h1))
  · exact .inl (e w hw (.inr h1))
  · exact .inr (e h hh (.inl h1))
  · exact .inr (e h hh (.inr h1))
theorem within_good {w h : Int} (hb : ¬ badS w h) : withinC 0 0 0 0 w h = 0 := by
  unfold badS at hb
  have e : ∀ x : Int, 1 ≤ x ∧ x ≤ 1024 → insideB (wrap64 (x - 1)) 1024 = true ∧ insideB 0 x = true := fun x hx => by
    have : wrap64 (x - 1) = x - 1 := IntWalk.wrap64_in _ ⟨by omega, by omega⟩
    rw [this]
    unfold insideB
    simp
    omega
  obtain ⟨a1, a2⟩ := e w (by omega)
  obtain ⟨b1, b2⟩ := e h (by omega)
  unfold withinC
  rw [a1, a2, b1, b2]
  simp
/-! lists of lengths -/
def okL (l : List Int) : Prop := ∀ x ∈ l, 1 ≤ x ∧ x ≤ 1048576
instance (l : List Int) : Decidable (okL l) := by unfold okL; infer_instance
def sumL : List Int → Int
  | [] => 0
  | x :: l => x + sumL l
theorem sumL_snoc (l : List Int) (x : Int) : sumL (l ++ [x]) = sumL l + x := by
  induction l with
  | nil => simp [sumL]
  | cons y l ih => simp only [List.cons_append, sumL, ih]; omega
theorem sumL_bd {l : List Int} (h : okL l) : 0 ≤ sumL l ∧ sumL l ≤ 1048576 * l.length := by
  induction l with
  | nil => simp [sumL]
  | cons y l ih =>
    have h1 := h y List.mem_cons_self
    have h2 := ih (fun x hx => h x (List.mem_cons_of_mem _ hx))
    simp only [sumL, List.length_cons]; omega
theorem okL_snoc {l : List Int} {x : Int} (h : okL l) (hx : 1 ≤ x ∧ x ≤ 1048576) : okL (l ++ [x]) := fun y hy => by
  rcases List.mem_append.1 hy with h1 | h1
  · exact h y h1
  · rw [List.mem_singleton.1 h1]; exact hx
theorem okL_at {l : List Int} (h : okL l) {i : Nat} (hi : i < l.length) : 1 ≤ nth l i ∧ nth l i ≤ 1048576 := h _ (nth_mem hi)
theorem okL_take {l : List Int} (h : okL l) (i : Nat) : okL (l.take i) := fun x hx => h x (List.mem_of_mem_take hx)
/-- entries, one behind the other, flat -/
def entF (a : Int) : List Int → List Int
  | [] => []
  | x :: l => a :: x :: entF (a + x) l
theorem entF_snoc (l : List Int) (x : Int) : ∀ a : Int, entF a (l ++ [x]) = entF a l ++ [a + sumL l, x] := by
  induction l with
  | nil => intro a; simp [entF, sumL]
  | cons y l ih => intro a; simp only [List.cons_append, entF, ih, sumL, Int.add_assoc]
theorem entF_len (l : List Int) : ∀ a : Int, (entF a l).length = l.length * 2 := by
  induction l with
  | nil => intro a; rfl
  | cons y l ih => intro a; simp only [entF, List.length_cons, ih]; omega
theorem entF_at {l : List Int} {i : Nat} (hi : i < l.length) : ∀ a : Int, nth (entF a l) (i * 2) = a + sumL (l.take i) ∧ nth (entF a l) (i * 2 + 1) = nth l i := by
  induction l generalizing i with
  | nil => simp at hi
  | cons y l ih =>
    intro a
    cases i with
    | zero => simp [entF, nth, sumL]
    | succ i =>
      have h1 := ih (i := i) (by simpa using hi) (a + y)
      have e1 : (i + 1) * 2 = i * 2 + 1 + 1 := by omega
      rw [e1]
      simp only [entF, List.take_succ_cons, sumL]
      have e2 : ∀ (u v : Int) (m : List Int) (k : Nat), nth (u :: v :: m) (k + 1 + 1) = nth m k := fun _ _ _ _ => rfl
      have e3 : ∀ (u : Int) (m : List Int) (k : Nat), nth (u :: m) (k + 1) = nth m k := fun _ _ _ => rfl
      rw [e2, e3 _ _ (i * 2 + 1 + 1), e3 _ _ (i * 2 + 1), e3]
      exact ⟨by rw [h1.1]; omega, h1.2⟩
/-- the bytes of entries -/
def entB (a : Int) : List Int → List Int
  | [] => []
  | x :: l => dgs a 4 ++ dgs x 4 ++ entB (a + x) l
theorem entB_snoc (l : List Int) (x : Int) : ∀ a : Int, entB a (l ++ [x]) = entB a l ++ dgs (a + sumL l) 4 ++ dgs x 4 := by
  induction l with
  | nil => intro a; simp [entB, sumL]
  | cons y l ih => intro a; simp only [List.cons_append, entB, ih, sumL, Int.add_assoc, List.append_assoc]
theorem entB_len (l : List Int) : ∀ a : Int, (entB a l).length = l.length * 8 := by
  induction l with
  | nil => intro a; rfl
  | cons y l ih => intro a; simp only [entB, List.length_append, dgs_len, List.length_cons, ih]; omega
def headB (w h : Int) : List Int := [72, 65, 67, 72, 1] ++ dgs (w - 1) 2 ++ dgs (h - 1) 2 ++ dgs (tilN w h) 4
theorem headB_len (w h : Int) : (headB w h).length = 13 := by simp [headB, dgs_len]
def dirS (w h : Int) (l : List Int) : List Int × Int := if badS w h then ([], 3) else if (l.length : Int) ≠ tilN w h then ([], 6) else if okL l then (headB w h ++ entB (13 + 8 * tilN w h) l, 0) else ([], 7)
def DirPutR (w h : Int) (l : List Int) (W : World) (v : Value) (W' : World) : Prop := ∃ A cap, v = .tuple #[.slice A (dirS w h l).1.length cap, .int .i64 (dirS w h l).2] ∧ HS W W' [.row A (dirS w h l).1.length cap (vi .u8 (dirS w h l).1) 5 1]
theorem dirS_bad {w h : Int} {l : List Int} (hb : badS w h) : dirS w h l = ([], 3) := by unfold dirS; rw [if_pos hb]
theorem dirS_cnt {w h : Int} {l : List Int} (hb : ¬ badS w h) (hn : ¬ (l.length : Int) = tilN w h) : dirS w h l = ([], 6) := by unfold dirS; rw [if_neg hb, if_pos hn]
theorem dirS_val {w h : Int} {l : List Int} (hb : ¬ badS w h) (hn : (l.length : Int) = tilN w h) (ho : ¬ okL l) : dirS w h l = ([], 7) := by unfold dirS; rw [if_neg hb, if_neg (by simpa using hn), if_neg ho]
theorem dirS_ok {w h : Int} {l : List Int} (hb : ¬ badS w h) (hn : (l.length : Int) = tilN w h) (ho : okL l) : dirS w h l = (headB w h ++ entB (13 + 8 * tilN w h) l, 0) := by unfold dirS; rw [if_neg hb, if_neg (by simpa using hn), if_pos ho]
theorem dig_lt {u : Int} {k : Nat} (h : 0 ≤ u ∧ u < 256 ^ k) : u / 256 ^ k = 0 := Int.ediv_eq_zero_of_lt h.1 h.2
theorem p2 : (256 : Int) ^ 2 = 65536 := by decide
theorem p4 : (256 : Int) ^ 4 = 4294967296 := by decide
theorem vi_app2 {k : IntKind} {a : List Int} {x y : Int} : vi k a ++ [.int k x, .int k y] = vi k (a ++ [x, y]) := by simp [vi]
theorem putS_fit {zs : List Int} {k : Nat} {u : Int} (h1 : 1 ≤ k) (h2 : k ≤ 8) (h : u / 256 ^ k = 0) : putS zs (k : Int) u = (zs ++ dgs u k, 0) := putS_ok h1 h2 h

theorem Put_fit (A : Option Addr) (m cap : Nat) (zs : List Int) (k : Nat) (u : Int) (w : World) (h : Rd w A (vi .u8 zs)) (hl : zs.length = m) (hm : m ≤ 1000000) (h1 : 1 ≤ k) (h2 : k ≤ 8) (hu : 0 ≤ u ∧ u < 18446744073709551616) (hz : u / 256 ^ k = 0) :
    Ret Tryz.prog 105 [.slice A m cap, .int .i64 (k : Int), .int .u64 u] w (fun v w' => ∃ A' cap', v = .tuple #[.slice A' (m + k) cap', .int .i64 0] ∧ HS w w' [.row A' (m + k) cap' (vi .u8 (zs ++ dgs u k)) 5 1]) := by
  have h := Put_any A m cap zs (k : Int) u w h hl hm hu
  unfold PutR at h
  rw [putS_fit h1 h2 hz] at h
  have e : (zs ++ dgs u k).length = m + k := by rw [List.length_append, dgs_len, hl]
  simp only [e] at h
  exact h

set_option maxRecDepth 100000 in
theorem up_any (x : Int) (w : World) (hx : 1 ≤ x ∧ x ≤ 1024) :
    Ret Tryz.prog 92 [.int .i64 x] w (fun v w' => v = .int .i64 ((x + 15) / 16) ∧ Below w.heap.size w w') := by
  refine ret_enter Tryz.func92 rfl rfl rfl ?_
  have H0 := HS.start w
  refine cw_seq ?_
  refine cw_reg ?_
  refine ry (y_asg rfl rfl) rfl rfl ?_
  refine reg_nil ?_
  refine fn_next ?_
  refine cw_seq ?_
  refine cw_reg ?_
  refine ry (y_mov rfl rfl) rfl rfl ?_
  refine ry (y_add rfl rfl rfl (wi (by omega))) rfl rfl ?_
  refine ry (y_sub rfl rfl rfl (wi (by omega))) rfl rfl ?_
  refine ry (y_quo rfl rfl rfl (by omega) (tdq (by omega) (wi (by omega)))) rfl rfl ?_
  refine ry (y_asg rfl rfl) rfl rfl ?_
  refine reg_nil ?_
  refine fn_next ?_
  refine cw_ret ?_
  refine fn_ret1 rfl rfl ?_
  exact ⟨by rw [show x + 16 - 1 = x + 15 by omega], H0.base⟩

set_option maxRecDepth 100000 in
theorem Tiles_bad (a h : Int) (w : World) (ha : -9223372036854775808 ≤ a ∧ a ≤ 9223372036854775807) (hh : -9223372036854775808 ≤ h ∧ h ≤ 9223372036854775807) (hb : badS a h) :
    Ret Tryz.prog 57 [.int .i64 a, .int .i64 h] w (fun v w' => v = .tuple #[.int .i64 (tilS a h).1, .int .i64 (tilS a h).2] ∧ Below w.heap.size w w') := by
  refine ret_enter Tryz.func57 rfl rfl rfl ?_
  have H0 := HS.start w
  refine cw_seq ?_
  refine cw_reg ?_
  refine ry (y_asg rfl rfl) rfl rfl ?_
  refine ry (y_asg rfl rfl) rfl rfl ?_
  refine reg_nil ?_
  refine fn_next ?_
  refine cw_seq ?_
  refine cw_seq ?_
  refine cw_reg ?_
  refine ry (y_build (places := [(0, 1), (1, 1), (2, 1), (3, 1)]) (parts := []) (vs := []) (cs := [.int _ _, .int _ _, .int _ _, .int _ _]) rfl Tryz.underlying54 (by kernel_rfl) kfdir0_1 rfl trivial rfl) rfl rfl ?_
  refine ry (y_mov rfl rfl) rfl rfl ?_
  refine ry (y_mov rfl rfl) rfl rfl ?_
  refine reg_op (op_call (ret_old (within_any 0 0 0 0 a h _)) rfl kfdir0_2 ⟨rfl, rfl, rfl, trivial⟩) rfl rfl ?_
  rintro _ w2 ⟨rfl, e1⟩
  have H3 := H0.ext e1
  refine ry (y_asg rfl rfl) rfl rfl ?_
  refine reg_nil ?_
  refine fn_next ?_
  refine cw_seq ?_
  refine cw_reg ?_
  refine ry (y_mov rfl rfl) rfl rfl ?_
  refine ry (y_neq rfl rfl rfl) rfl rfl ?_
  refine reg_nil ?_
  refine fn_next ?_
  refine cw_condd rfl (fun h4 => ?_) (fun h4 => ?_)
  · skip
    refine cw_seq ?_
    refine cw_reg ?_
    refine ry (y_mov rfl rfl) rfl rfl ?_
    refine ry (y_asg rfl rfl) rfl rfl ?_
    refine ry (y_asg rfl rfl) rfl rfl ?_
    refine reg_nil ?_
    refine fn_next ?_
    refine cw_ret ?_
    refine fn_then_ret ?_
    refine fn_retn (vs := [_, _]) rfl ⟨rfl, rfl, trivial⟩ rfl ?_
    exact ⟨by unfold tilS; rw [if_pos hb, within_bad hb ha hh] <;> rfl, H3.base⟩
  · exact absurd (by rw [within_bad hb ha hh]; decide) h4

set_option maxRecDepth 100000 in
theorem Tiles_good (a h : Int) (w : World) (hb : ¬ badS a h) :
    Ret Tryz.prog 57 [.int .i64 a, .int .i64 h] w (fun v w' => v = .tuple #[.int .i64 (tilS a h).1, .int .i64 (tilS a h).2] ∧ Below w.heap.size w w') := by
  have htb := tilN_bd hb
  have hb' := hb
  unfold badS at hb'
  refine ret_enter Tryz.func57 rfl rfl rfl ?_
  have H0 := HS.start w
  refine cw_seq ?_
  refine cw_reg ?_
  refine ry (y_asg rfl rfl) rfl rfl ?_
  refine ry (y_asg rfl rfl) rfl rfl ?_
  refine reg_nil ?_
  refine fn_next ?_
  refine cw_seq ?_
  refine cw_seq ?_
  refine cw_reg ?_
  refine ry (y_build (places := [(0, 1), (1, 1), (2, 1), (3, 1)]) (parts := []) (vs := []) (cs := [.int _ _, .int _ _, .int _ _, .int _ _]) rfl Tryz.underlying54 (by kernel_rfl) kfdir0_1 rfl trivial rfl) rfl rfl ?_
  refine ry (y_mov rfl rfl) rfl rfl ?_
  refine ry (y_mov rfl rfl) rfl rfl ?_
  refine reg_op (op_call (ret_old (within_any 0 0 0 0 a h _)) rfl kfdir0_2 ⟨rfl, rfl, rfl, trivial⟩) rfl rfl ?_
  rintro _ w2 ⟨rfl, e1⟩
  have H3 := H0.ext e1
  refine ry (y_asg rfl rfl) rfl rfl ?_
  refine reg_nil ?_
  refine fn_next ?_
  refine cw_seq ?_
  refine cw_reg ?_
  refine ry (y_mov rfl rfl) rfl rfl ?_
  refine ry (y_neq rfl rfl rfl) rfl rfl ?_
  refine reg_nil ?_
  refine fn_next ?_
  refine cw_condd rfl (fun h4 => ?_) (fun h4 => ?_)
  · exact absurd (within_good hb) h4
  · skip
    refine cw_skip ?_
    refine fn_next ?_
    refine cw_seq ?_
    refine cw_reg ?_
    refine ry (y_asg rfl rfl) rfl rfl ?_
    refine reg_nil ?_
    refine fn_next ?_
    refine cw_seq ?_
    refine cw_reg ?_
    refine ry (y_mov rfl rfl) rfl rfl ?_
    refine ry (y_mov rfl rfl) rfl rfl ?_
    refine reg_op (op_callv (fs := []) (vs := [_]) (cs := []) (up_any a _ (by omega)) rfl kfdir0_3 rfl ⟨rfl, trivial⟩) rfl rfl ?_
    rintro _ w6 ⟨rfl, e5⟩
    have H7 := H3.ext e5
    refine ry (y_mov rfl rfl) rfl rfl ?_
    refine ry (y_mov rfl rfl) rfl rfl ?_
    refine reg_op (op_callv (fs := []) (vs := [_]) (cs := []) (up_any h _ (by omega)) rfl kfdir0_3 rfl ⟨rfl, trivial⟩) rfl rfl ?_
    rintro _ w9 ⟨rfl, e8⟩
    have H10 := H7.ext e8
    refine ry (y_mul rfl rfl rfl (wi (by unfold tilN at htb; omega))) rfl rfl ?_
    refine ry (y_asg rfl rfl) rfl rfl ?_
    refine ry (y_asg rfl rfl) rfl rfl ?_
    refine reg_nil ?_
    refine fn_next ?_
    refine cw_ret ?_
    refine fn_retn (vs := [_, _]) rfl ⟨rfl, rfl, trivial⟩ rfl ?_
    exact ⟨by unfold tilS; rw [if_neg hb] <;> rfl, H10.base⟩

theorem Tiles_any (a h : Int) (w : World) (ha : -9223372036854775808 ≤ a ∧ a ≤ 9223372036854775807) (hh : -9223372036854775808 ≤ h ∧ h ≤ 9223372036854775807) : Ret Tryz.prog 57 [.int .i64 a, .int .i64 h] w (fun v w' => v = .tuple #[.int .i64 (tilS a h).1, .int .i64 (tilS a h).2] ∧ Below w.heap.size w w') := by
  by_cases hb : badS a h
  · exact Tiles_bad a h w ha hh hb
  · exact Tiles_good a h w hb

set_option maxRecDepth 100000 in
theorem Size_bad (a h : Int) (w : World) (ha : -9223372036854775808 ≤ a ∧ a ≤ 9223372036854775807) (hh : -9223372036854775808 ≤ h ∧ h ≤ 9223372036854775807) (hb : badS a h) :
    Ret Tryz.prog 58 [.int .i64 a, .int .i64 h] w (fun v w' => v = .tuple #[.int .i64 (sizS a h).1, .int .i64 (sizS a h).2] ∧ Below w.heap.size w w') := by
  refine ret_enter Tryz.func58 rfl rfl rfl ?_
  have H0 := HS.start w
  refine cw_seq ?_
  refine cw_reg ?_
  refine ry (y_asg rfl rfl) rfl rfl ?_
  refine ry (y_asg rfl rfl) rfl rfl ?_
  refine reg_nil ?_
  refine fn_next ?_
  refine cw_seq ?_
  refine cw_reg ?_
  refine ry (y_mov rfl rfl) rfl rfl ?_
  refine ry (y_mov rfl rfl) rfl rfl ?_
  refine reg_op (op_call (Tiles_any a h _ ha hh) rfl kfdir0_4 ⟨rfl, rfl, trivial⟩) rfl rfl ?_
  rintro _ w2 ⟨rfl, e1⟩
  have H3 := H0.ext e1
  refine ry (y_mov rfl rfl) rfl rfl ?_
  refine ry (y_ext rfl rfl rfl) rfl rfl ?_
  refine ry (y_ext rfl rfl rfl) rfl rfl ?_
  refine ry (y_asg rfl rfl) rfl rfl ?_
  refine ry (y_asg rfl rfl) rfl rfl ?_
  refine reg_nil ?_
  refine fn_next ?_
  refine cw_seq ?_
  refine cw_seq ?_
  refine cw_reg ?_
  refine ry (y_mov rfl rfl) rfl rfl ?_
  refine ry (y_neq rfl rfl rfl) rfl rfl ?_
  refine reg_nil ?_
  refine fn_next ?_
  refine cw_condd rfl (fun h4 => ?_) (fun h4 => ?_)
  · skip
    refine cw_seq ?_
    refine cw_reg ?_
    refine ry (y_mov rfl rfl) rfl rfl ?_
    refine ry (y_asg rfl rfl) rfl rfl ?_
    refine ry (y_asg rfl rfl) rfl rfl ?_
    refine reg_nil ?_
    refine fn_next ?_
    refine cw_ret ?_
    refine fn_then_ret ?_
    refine fn_retn (vs := [_, _]) rfl ⟨rfl, rfl, trivial⟩ rfl ?_
    exact ⟨by unfold sizS tilS; rw [if_pos hb, if_pos hb] <;> rfl, H3.base⟩
  · exact absurd (by unfold tilS; rw [if_pos hb]; decide) h4

set_option maxRecDepth 100000 in
theorem Size_good (a h : Int) (w : World) (hb : ¬ badS a h) :
    Ret Tryz.prog 58 [.int .i64 a, .int .i64 h] w (fun v w' => v = .tuple #[.int .i64 (sizS a h).1, .int .i64 (sizS a h).2] ∧ Below w.heap.size w w') := by
  have htb := tilN_bd hb
  have hb' := hb
  unfold badS at hb'
  refine ret_enter Tryz.func58 rfl rfl rfl ?_
  have H0 := HS.start w
  refine cw_seq ?_
  refine cw_reg ?_
  refine ry (y_asg rfl rfl) rfl rfl ?_
  refine ry (y_asg rfl rfl) rfl rfl ?_
  refine reg_nil ?_
  refine fn_next ?_
  refine cw_seq ?_
  refine cw_reg ?_
  refine ry (y_mov rfl rfl) rfl rfl ?_
  refine ry (y_mov rfl rfl) rfl rfl ?_
  refine reg_op (op_call (Tiles_good a h _ hb) rfl kfdir0_4 ⟨rfl, rfl, trivial⟩) rfl rfl ?_
  rintro _ w2 ⟨rfl, e1⟩
  have H3 := H0.ext e1
  refine ry (y_mov rfl rfl) rfl rfl ?_
  refine ry (y_ext rfl rfl rfl) rfl rfl ?_
  refine ry (y_ext rfl rfl rfl) rfl rfl ?_
  refine ry (y_asg rfl rfl) rfl rfl ?_
  refine ry (y_asg rfl rfl) rfl rfl ?_
  refine reg_nil ?_
  refine fn_next ?_
  refine cw_seq ?_
  refine cw_seq ?_
  refine cw_reg ?_
  refine ry (y_mov rfl rfl) rfl rfl ?_
  refine ry (y_neq rfl rfl rfl) rfl rfl ?_
  refine reg_nil ?_
  refine fn_next ?_
  refine cw_condd rfl (fun h4 => ?_) (fun h4 => ?_)
  · exact absurd (by unfold tilS; rw [if_neg hb]) h4
  · skip
    refine cw_skip ?_
    refine fn_next ?_
    refine cw_seq ?_
    refine cw_reg ?_
    refine ry (y_mov rfl rfl) rfl rfl ?_
    refine ry (y_mul rfl rfl rfl (wi (by unfold tilS; rw [if_neg hb]; simp only; omega))) rfl rfl ?_
    refine ry (y_add rfl rfl rfl (wi (by unfold tilS; rw [if_neg hb]; simp only; omega))) rfl rfl ?_
    refine ry (y_asg rfl rfl) rfl rfl ?_
    refine ry (y_asg rfl rfl) rfl rfl ?_
    refine reg_nil ?_
    refine fn_next ?_
    refine cw_ret ?_
    refine fn_retn (vs := [_, _]) rfl ⟨rfl, rfl, trivial⟩ rfl ?_
    exact ⟨by unfold sizS tilS; rw [if_neg hb, if_neg hb]; simp only; rw [Int.mul_comm] <;> rfl, H3.base⟩

theorem Size_any (a h : Int) (w : World) (ha : -9223372036854775808 ≤ a ∧ a ≤ 9223372036854775807) (hh : -9223372036854775808 ≤ h ∧ h ≤ 9223372036854775807) : Ret Tryz.prog 58 [.int .i64 a, .int .i64 h] w (fun v w' => v = .tuple #[.int .i64 (sizS a h).1, .int .i64 (sizS a h).2] ∧ Below w.heap.size w w') := by
  by_cases hb : badS a h
  · exact Size_bad a h w ha hh hb
  · exact Size_good a h w hb

theorem pieces_cnt {a h : Int} (hb : ¬ badS a h) : ((piecesL ⟨0, 0, a - 1, h - 1⟩).length : Int) = tilN a h := by
  unfold badS at hb
  have hr : Rt.right ⟨0, 0, a - 1, h - 1⟩ := by unfold Rt.right RightP; simp only; omega
  unfold piecesL
  rw [if_pos hr, pieceRows_len]
  unfold tilesOf floorI tilN
  simp only
  rw [Int.natCast_mul, Int.mul_comm]
  congr 1 <;> omega

set_option maxRecDepth 100000 in
theorem refTiles_bad (a h : Int) (w : World) (ha : -9223372036854775808 ≤ a ∧ a ≤ 9223372036854775807) (hh : -9223372036854775808 ≤ h ∧ h ≤ 9223372036854775807) (hb : badS a h) :
    Ret Tryz.prog 41 [.int .i64 a, .int .i64 h] w (fun v w' => v = .tuple #[.int .i64 (tilS a h).1, .int .i64 (tilS a h).2] ∧ Below w.heap.size w w') := by
  refine ret_enter Tryz.func41 rfl rfl rfl ?_
  have H0 := HS.start w
  refine cw_seq ?_
  refine cw_reg ?_
  refine ry (y_asg rfl rfl) rfl rfl ?_
  refine ry (y_asg rfl rfl) rfl rfl ?_
  refine reg_nil ?_
  refine fn_next ?_
  refine cw_seq ?_
  refine cw_seq ?_
  refine cw_reg ?_
  refine ry (y_mov rfl rfl) rfl rfl ?_
  refine ry (y_lss rfl rfl rfl) rfl rfl ?_
  refine ry (y_mov rfl rfl) rfl rfl ?_
  refine rg_splitd (d := 8) rfl (fun h1 => ?_) (fun h1 => ?_)
  · skip
    refine rg_off rfl rfl rfl rfl rfl ?_
    refine rg_off rfl rfl rfl rfl rfl ?_
    refine ry (y_pick rfl rfl rfl) rfl rfl ?_
    refine ry (y_mov rfl rfl) rfl rfl ?_
    refine rg_off rfl rfl rfl rfl rfl ?_
    refine rg_off rfl rfl rfl rfl rfl ?_
    refine ry (y_pick rfl rfl rfl) rfl rfl ?_
    refine ry (y_mov rfl rfl) rfl rfl ?_
    refine rg_off rfl rfl rfl rfl rfl ?_
    refine rg_off rfl rfl rfl rfl rfl ?_
    refine ry (y_pick rfl rfl rfl) rfl rfl ?_
    refine reg_nil ?_
    refine fn_next ?_
    refine cw_condt rfl ?_
    refine cw_seq ?_
    refine cw_reg ?_
    refine ry (y_asg rfl rfl) rfl rfl ?_
    refine ry (y_asg rfl rfl) rfl rfl ?_
    refine reg_nil ?_
    refine fn_next ?_
    refine cw_ret ?_
    refine fn_then_ret ?_
    refine fn_retn (vs := [_, _]) rfl ⟨rfl, rfl, trivial⟩ rfl ?_
    exact ⟨by unfold tilS; rw [if_pos hb] <;> rfl, H0.base⟩
  · skip
    refine rgy (y_mov rfl rfl) rfl rfl rfl rfl ?_
    refine rgy (y_gtr rfl rfl rfl) rfl rfl rfl rfl ?_
    refine ry (y_pick rfl rfl rfl) rfl rfl ?_
    refine ry (y_mov rfl rfl) rfl rfl ?_
    refine rg_splitd (d := 12) rfl (fun h2 => ?_) (fun h2 => ?_)
    · skip
      refine rg_off rfl rfl rfl rfl rfl ?_
      refine rg_off rfl rfl rfl rfl rfl ?_
      refine ry (y_pick rfl rfl rfl) rfl rfl ?_
      refine ry (y_mov rfl rfl) rfl rfl ?_
      refine rg_off rfl rfl rfl rfl rfl ?_
      refine rg_off rfl rfl rfl rfl rfl ?_
      refine ry (y_pick rfl rfl rfl) rfl rfl ?_
      refine reg_nil ?_
      refine fn_next ?_
      refine cw_condt rfl ?_
      refine cw_seq ?_
      refine cw_reg ?_
      refine ry (y_asg rfl rfl) rfl rfl ?_
      refine ry (y_asg rfl rfl) rfl rfl ?_
      refine reg_nil ?_
      refine fn_next ?_
      refine cw_ret ?_
      refine fn_then_ret ?_
      refine fn_retn (vs := [_, _]) rfl ⟨rfl, rfl, trivial⟩ rfl ?_
      exact ⟨by unfold tilS; rw [if_pos hb] <;> rfl, H0.base⟩
    · skip
      refine rgy (y_mov rfl rfl) rfl rfl rfl rfl ?_
      refine rgy (y_lss rfl rfl rfl) rfl rfl rfl rfl ?_
      refine ry (y_pick rfl rfl rfl) rfl rfl ?_
      refine ry (y_mov rfl rfl) rfl rfl ?_
      refine rg_splitd (d := 16) rfl (fun h3 => ?_) (fun h3 => ?_)
      · skip
        refine rg_off rfl rfl rfl rfl rfl ?_
        refine rg_off rfl rfl rfl rfl rfl ?_
        refine ry (y_pick rfl rfl rfl) rfl rfl ?_
        refine reg_nil ?_
        refine fn_next ?_
        refine cw_condt rfl ?_
        refine cw_seq ?_
        refine cw_reg ?_
        refine ry (y_asg rfl rfl) rfl rfl ?_
        refine ry (y_asg rfl rfl) rfl rfl ?_
        refine reg_nil ?_
        refine fn_next ?_
        refine cw_ret ?_
        refine fn_then_ret ?_
        refine fn_retn (vs := [_, _]) rfl ⟨rfl, rfl, trivial⟩ rfl ?_
        exact ⟨by unfold tilS; rw [if_pos hb] <;> rfl, H0.base⟩
      · skip
        refine rgy (y_mov rfl rfl) rfl rfl rfl rfl ?_
        refine rgy (y_gtr rfl rfl rfl) rfl rfl rfl rfl ?_
        refine ry (y_pick rfl rfl rfl) rfl rfl ?_
        refine reg_nil ?_
        refine fn_next ?_
        refine cw_condd rfl (fun h4 => ?_) (fun h4 => ?_)
        · skip
          refine cw_seq ?_
          refine cw_reg ?_
          refine ry (y_asg rfl rfl) rfl rfl ?_
          refine ry (y_asg rfl rfl) rfl rfl ?_
          refine reg_nil ?_
          refine fn_next ?_
          refine cw_ret ?_
          refine fn_then_ret ?_
          refine fn_retn (vs := [_, _]) rfl ⟨rfl, rfl, trivial⟩ rfl ?_
          exact ⟨by unfold tilS; rw [if_pos hb] <;> rfl, H0.base⟩
        · exfalso; unfold badS at hb; omega

set_option maxRecDepth 100000 in
theorem refTiles_good (a h : Int) (w : World) (hb : ¬ badS a h) :
    Ret Tryz.prog 41 [.int .i64 a, .int .i64 h] w (fun v w' => v = .tuple #[.int .i64 (tilS a h).1, .int .i64 (tilS a h).2] ∧ Below w.heap.size w w') := by
  have htb := tilN_bd hb
  have hb' := hb
  unfold badS at hb'
  refine ret_enter Tryz.func41 rfl rfl rfl ?_
  have H0 := HS.start w
  refine cw_seq ?_
  refine cw_reg ?_
  refine ry (y_asg rfl rfl) rfl rfl ?_
  refine ry (y_asg rfl rfl) rfl rfl ?_
  refine reg_nil ?_
  refine fn_next ?_
  refine cw_seq ?_
  refine cw_seq ?_
  refine cw_reg ?_
  refine ry (y_mov rfl rfl) rfl rfl ?_
  refine ry (y_lss rfl rfl rfl) rfl rfl ?_
  refine ry (y_mov rfl rfl) rfl rfl ?_
  refine rg_splitd (d := 8) rfl (fun h1 => ?_) (fun h1 => ?_)
  · exfalso; omega
  · skip
    refine rgy (y_mov rfl rfl) rfl rfl rfl rfl ?_
    refine rgy (y_gtr rfl rfl rfl) rfl rfl rfl rfl ?_
    refine ry (y_pick rfl rfl rfl) rfl rfl ?_
    refine ry (y_mov rfl rfl) rfl rfl ?_
    refine rg_splitd (d := 12) rfl (fun h2 => ?_) (fun h2 => ?_)
    · exfalso; omega
    · skip
      refine rgy (y_mov rfl rfl) rfl rfl rfl rfl ?_
      refine rgy (y_lss rfl rfl rfl) rfl rfl rfl rfl ?_
      refine ry (y_pick rfl rfl rfl) rfl rfl ?_
      refine ry (y_mov rfl rfl) rfl rfl ?_
      refine rg_splitd (d := 16) rfl (fun h3 => ?_) (fun h3 => ?_)
      · exfalso; omega
      · skip
        refine rgy (y_mov rfl rfl) rfl rfl rfl rfl ?_
        refine rgy (y_gtr rfl rfl rfl) rfl rfl rfl rfl ?_
        refine ry (y_pick rfl rfl rfl) rfl rfl ?_
        refine reg_nil ?_
        refine fn_next ?_
        refine cw_condd rfl (fun h4 => ?_) (fun h4 => ?_)
        · exfalso; omega
        · skip
          refine cw_skip ?_
          refine fn_next ?_
          refine cw_seq ?_
          refine cw_reg ?_
          refine ry (y_mov rfl rfl) rfl rfl ?_
          refine ry (y_sub rfl rfl rfl (wi (by omega))) rfl rfl ?_
          refine ry (y_mov rfl rfl) rfl rfl ?_
          refine ry (y_sub rfl rfl rfl (wi (by omega))) rfl rfl ?_
          refine ry (y_build (places := [(0, 1), (1, 1), (2, 1), (3, 1)]) (parts := [(2, _), (3, _)]) (vs := [(2, _), (3, _)]) (cs := [.int _ _, .int _ _, .int _ _, .int _ _]) rfl Tryz.underlying54 (by kernel_rfl) kfdir0_1 rfl ⟨rfl, rfl, trivial⟩ rfl) rfl rfl ?_
          refine reg_op (op_call (refPieces_any 0 0 (a - 1) (h - 1) _) rfl kfdir0_5 ⟨rfl, trivial⟩) rfl rfl ?_
          rintro _ w6 ⟨A8, c9, rfl, k5⟩
          have H7 := H0.call k5
          refine ry (y_len rfl Tryz.underlying47 rfl) rfl rfl ?_
          refine ry (y_asg rfl rfl) rfl rfl ?_
          refine ry (y_asg rfl rfl) rfl rfl ?_
          refine reg_nil ?_
          refine fn_next ?_
          refine cw_ret ?_
          refine fn_retn (vs := [_, _]) rfl ⟨rfl, rfl, trivial⟩ rfl ?_
          exact ⟨by unfold tilS; rw [if_neg hb, pieces_cnt hb] <;> rfl, H7.base⟩

theorem refTiles_any (a h : Int) (w : World) (ha : -9223372036854775808 ≤ a ∧ a ≤ 9223372036854775807) (hh : -9223372036854775808 ≤ h ∧ h ≤ 9223372036854775807) : Ret Tryz.prog 41 [.int .i64 a, .int .i64 h] w (fun v w' => v = .tuple #[.int .i64 (tilS a h).1, .int .i64 (tilS a h).2] ∧ Below w.heap.size w w') := by
  by_cases hb : badS a h
  · exact refTiles_bad a h w ha hh hb
  · exact refTiles_good a h w hb

end Go.Proofs.YtbnjbgcadkdljaaGreatDoor

namespace Go.Proofs.YtbnjbgcadkdljaaGreatDoor
open Go Go.RowKit
theorem kfdir1_1 : elB Tryz.prog 24 1 = true := by kernel_rfl
theorem kfdir1_2 : oneB Tryz.prog 2 = true := by kernel_rfl
theorem kfdir1_3 : (Tryz.prog.info? 50).bind (fun i => i.zero.map Value.cells) = some (List.toArray [(.int .i64 0), (.int .i64 0)]) := by kernel_rfl
theorem kfdir1_4 : (Tryz.prog.info? 50).map (fun i => (i.size, i.zero.map Value.cells)) = some (2, some (List.toArray [(.int .i64 0), (.int .i64 0)])) := by kernel_rfl
theorem kfdir1_5 : (Tryz.prog.info? 50).map (fun i => (i.zero.map (·.cells.toList), i.size, i.bytes)) = some (some [(.int .i64 0), (.int .i64 0)], 2, 16) := by kernel_rfl
theorem kfdir1_6 : callB Tryz.prog 105 = true := by kernel_rfl
theorem ent_part {l : List Int} {i : Nat} (hi : i < l.length) (a : Int) : ∀ j v, ([.int .i64 (a + sumL (l.take i)), .int .i64 (nth l i)] : List Value)[j]? = some v → (vi .i64 (entF a l))[i * 2 + j]? = some v := by
  intro j v hv
  have h1 := entF_at hi a
  have hl := entF_len l a
  match j, hv with
  | 0, hv =>
    rw [Nat.add_zero, vi_get (by omega), h1.1]; exact hv
  | 1, hv =>
    rw [vi_get (by omega), h1.2]; exact hv
theorem ent_get {l : List Int} {i : Nat} (hi : i < l.length) (a : Int) : (vi .i64 (entF a l))[i * 2]? = some (.int .i64 (a + sumL (l.take i))) := ent_part hi a 0 _ rfl
theorem Tiles_ok (a h : Int) (w : World) (hb : ¬ badS a h) : Ret Tryz.prog 57 [.int .i64 a, .int .i64 h] w (fun v w' => v = .tuple #[.int .i64 (tilN a h), .int .i64 0] ∧ Below w.heap.size w w') := by
  have := Tiles_good a h w hb
  unfold tilS at this; rw [if_neg hb] at this; exact this

theorem Size_ok (a h : Int) (w : World) (hb : ¬ badS a h) : Ret Tryz.prog 58 [.int .i64 a, .int .i64 h] w (fun v w' => v = .tuple #[.int .i64 (13 + 8 * tilN a h), .int .i64 0] ∧ Below w.heap.size w w') := by
  have := Size_good a h w hb
  unfold sizS at this; rw [if_neg hb] at this; exact this

theorem Tiles_no (a h : Int) (w : World) (ha : -9223372036854775808 ≤ a ∧ a ≤ 9223372036854775807) (hh : -9223372036854775808 ≤ h ∧ h ≤ 9223372036854775807) (hb : badS a h) : Ret Tryz.prog 57 [.int .i64 a, .int .i64 h] w (fun v w' => v = .tuple #[.int .i64 0, .int .i64 3] ∧ Below w.heap.size w w') := by
  have := Tiles_bad a h w ha hh hb
  unfold tilS at this; rw [if_pos hb] at this; exact this

set_option maxRecDepth 100000 in
theorem entries_ok (a : Int) (A : Option Addr) (m cap : Nat) (zs : List Int) (w : World) (hz : Rd w A (vi .i64 zs)) (hl : zs.length = m) (hm : m ≤ 5000) (hok : okL zs) (hab : 0 ≤ a ∧ a ≤ 100000) :
    Ret Tryz.prog 75 [.int .i64 a, .slice A m cap] w (fun v w' => ∃ A' cap', v = .tuple #[.slice A' m cap', .bool true] ∧ HS w w' [.row A' m cap' (vi .i64 (entF a zs)) 50 2]) := by
  refine ret_enter Tryz.func75 rfl rfl rfl ?_
  have H0 := HS.start w
  refine cw_seq ?_
  refine cw_reg ?_
  refine ry (y_asg rfl rfl) rfl rfl ?_
  refine ry (y_asg rfl rfl) rfl rfl ?_
  refine reg_nil ?_
  refine fn_next ?_
  refine cw_seq ?_
  refine cw_reg ?_
  refine ry (y_asg rfl rfl) rfl rfl ?_
  refine reg_nil ?_
  refine fn_next ?_
  refine cw_seq ?_
  refine cw_seq ?_
  refine cw_reg ?_
  refine ry (y_mov rfl rfl) rfl rfl ?_
  refine ry (y_len rfl Tryz.underlying24 rfl) rfl rfl ?_
  refine ry (y_mov rfl rfl) rfl rfl ?_
  refine reg_nil ?_
  refine fn_next ?_
  refine cw_block ?_
  have Hn := H0.nilrow 50 2
  refine cw_loopJ [0, 4, 5, 6, 8, 11, 12, 13, 14, 15, 16, 17, 18, 19, 20, 21, 22, 23, 24, 25, 26, 27, 28, 29, 30] (fun M wl ml => ∃ (i : Nat) (A' : Option Addr) (cap' : Nat), M = [(0, .int .i64 (a + sumL (zs.take i))), (6, .slice A' i cap'), (11, .int .i64 (i : Int))] ∧ HS w wl [.row A' i cap' (vi .i64 (entF a (zs.take i))) 50 2] ∧ (i ≤ m) ∧ ml = m - i) ⟨0, none, 0, rfl, Hn, Nat.zero_le _, rfl⟩ ⟨si (by simp [sumL]), rfl, rfl, trivial⟩ ?_
  rintro M w1 m3 ⟨i, A', cap', rfl, H2, hp0, rfl⟩
  refine cw_seq ?_
  refine cw_reg ?_
  refine ry (y_lss rfl rfl rfl) rfl rfl ?_
  refine reg_nil ?_
  refine fn_next ?_
  refine cw_seq ?_
  refine cw_condd rfl (fun h4 => ?_) (fun h4 => ?_)
  · skip
    have hil : i < zs.length := by omega
    have hge := vi_get (k := .i64) hil
    have htk := take_succ_nth hil
    have htl : (zs.take i).length ≤ i := List.length_take_le _ _
    have hx := okL_at hok hil
    have hsb := sumL_bd (okL_take hok i)
    refine cw_skip ?_
    refine fn_next ?_
    refine cw_seq ?_
    refine cw_block ?_
    refine cw_seq ?_
    refine cw_reg ?_
    refine ry (y_iar (hz.below H2.base) rfl rfl rfl kfdir1_1 (rfl) (by omega) (Nat.mul_one _) (hge)) rfl rfl ?_
    refine ry (y_ldr (hz.below H2.base) rfl rfl kfdir1_2 (hge)) rfl rfl ?_
    refine ry (y_asg rfl rfl) rfl rfl ?_
    refine reg_nil ?_
    refine fn_next ?_
    refine cw_seq ?_
    refine cw_seq ?_
    refine cw_reg ?_
    refine ry (y_mov rfl rfl) rfl rfl ?_
    refine ry (y_lss rfl rfl rfl) rfl rfl ?_
    refine ry (y_mov rfl rfl) rfl rfl ?_
    refine rg_splitd (d := 17) rfl (fun h5 => ?_) (fun h5 => ?_)
    · exfalso; omega
    · skip
      refine rgy (y_mov rfl rfl) rfl rfl rfl rfl ?_
      refine rgy (y_gtr rfl rfl rfl) rfl rfl rfl rfl ?_
      refine ry (y_pick rfl rfl rfl) rfl rfl ?_
      refine reg_nil ?_
      refine fn_next ?_
      refine cw_condd rfl (fun h6 => ?_) (fun h6 => ?_)
      · exfalso; omega
      · skip
        refine cw_skip ?_
        refine fn_next ?_
        refine cw_seq ?_
        refine cw_reg ?_
        refine ry (y_mov rfl rfl) rfl rfl ?_
        refine ry (y_mov rfl rfl) rfl rfl ?_
        refine ry (y_mov rfl rfl) rfl rfl ?_
        refine ry (y_build (places := [(0, 1), (1, 1)]) (parts := [(0, _), (1, _)]) (vs := [(0, _), (1, _)]) (cs := [.int _ _, .int _ _]) rfl Tryz.underlying50 (by kernel_rfl) kfdir1_3 rfl ⟨rfl, rfl, trivial⟩ rfl) rfl rfl ?_
        refine reg_op (op_lit (parts := [(0, _)]) (vs := [(0, _)]) (cs := [.int _ _, .int _ _]) H2 rfl Tryz.underlying42 kfdir1_4 rfl ⟨rfl, trivial⟩ rfl rfl) rfl rfl ?_
        rintro _ w8 ⟨b7, rfl, H9⟩
        have H10 := H9.asrow (m := 1) (size := 2) rfl (by decide)
        refine reg_op (op_app (i := 1) H10 rfl rfl rfl rfl (H10.rd (i := 0) rfl) (rfl) (rfl) Tryz.underlying42 kfdir1_5 rfl rfl (by unfold maxLen; omega) (by omega)) rfl rfl ?_
        rintro _ w13 ⟨A11, c12, rfl, H14⟩
        refine ry (y_asg rfl rfl) rfl rfl ?_
        refine reg_nil ?_
        refine fn_next ?_
        refine cw_reg ?_
        refine ry (y_mov rfl rfl) rfl rfl ?_
        refine ry (y_mov rfl rfl) rfl rfl ?_
        refine ry (y_add rfl rfl rfl (wi (by omega))) rfl rfl ?_
        refine ry (y_asg rfl rfl) rfl rfl ?_
        refine reg_nil ?_
        refine fn_block ?_
        refine fn_next ?_
        refine cw_reg ?_
        refine ry (y_add rfl rfl rfl (wi (by omega))) rfl rfl ?_
        refine ry (y_mov rfl rfl) rfl rfl ?_
        refine reg_nil ?_
        rw [vi_app2, ← entF_snoc, ← htk] at H14
        refine fn_roundJ ⟨i + 1, _, _, rfl, (H14.pick [1] rfl (by decide)), by omega, rfl⟩ ⟨si (by rw [htk, sumL_snoc]; omega), rfl, rfl, trivial⟩ (by omega) (by repeat (first | exact kp_refl | refine kp_app rfl rfl ?_ | refine kp_cons rfl ?_)) rfl
  · skip
    have hie : zs.take i = zs := List.take_of_length_le (by omega)
    refine cw_exit ?_
    refine fn_then_exit (fn_then_exit (fn_block_exit ?_))
    refine fn_next ?_
    refine cw_seq ?_
    refine cw_reg ?_
    refine ry (y_mov rfl rfl) rfl rfl ?_
    refine ry (y_asg rfl rfl) rfl rfl ?_
    refine ry (y_asg rfl rfl) rfl rfl ?_
    refine reg_nil ?_
    refine fn_next ?_
    refine cw_ret ?_
    refine fn_retn (vs := [_, _]) rfl ⟨rfl, rfl, trivial⟩ rfl ?_
    rw [hie] at H2
    obtain rfl : i = m := by omega
    exact ⟨_, _, rfl, H2⟩

set_option maxRecDepth 100000 in
theorem entries_no (a : Int) (A : Option Addr) (m cap : Nat) (zs : List Int) (w : World) (hz : Rd w A (vi .i64 zs)) (hl : zs.length = m) (hm : m ≤ 5000) (hno : ¬ okL zs) (hab : 0 ≤ a ∧ a ≤ 100000) :
    Ret Tryz.prog 75 [.int .i64 a, .slice A m cap] w (fun v w' => v = .tuple #[.slice none 0 0, .bool false] ∧ Below w.heap.size w w') := by
  refine ret_enter Tryz.func75 rfl rfl rfl ?_
  have H0 := HS.start w
  refine cw_seq ?_
  refine cw_reg ?_
  refine ry (y_asg rfl rfl) rfl rfl ?_
  refine ry (y_asg rfl rfl) rfl rfl ?_
  refine reg_nil ?_
  refine fn_next ?_
  refine cw_seq ?_
  refine cw_reg ?_
  refine ry (y_asg rfl rfl) rfl rfl ?_
  refine reg_nil ?_
  refine fn_next ?_
  refine cw_seq ?_
  refine cw_seq ?_
  refine cw_reg ?_
  refine ry (y_mov rfl rfl) rfl rfl ?_
  refine ry (y_len rfl Tryz.underlying24 rfl) rfl rfl ?_
  refine ry (y_mov rfl rfl) rfl rfl ?_
  refine reg_nil ?_
  refine fn_next ?_
  refine cw_block ?_
  have Hn := H0.nilrow 50 2
  refine cw_loopJ [0, 4, 5, 6, 8, 11, 12, 13, 14, 15, 16, 17, 18, 19, 20, 21, 22, 23, 24, 25, 26, 27, 28, 29, 30] (fun M wl ml => ∃ (i : Nat) (A' : Option Addr) (cap' : Nat), M = [(0, .int .i64 (a + sumL (zs.take i))), (6, .slice A' i cap'), (11, .int .i64 (i : Int))] ∧ HS w wl [.row A' i cap' (vi .i64 (entF a (zs.take i))) 50 2] ∧ (i ≤ m) ∧ (Hid (okL (zs.take i))) ∧ ml = m - i) ⟨0, none, 0, rfl, Hn, Nat.zero_le _, Lib.hid (fun x hx => by simp at hx), rfl⟩ ⟨si (by simp [sumL]), rfl, rfl, trivial⟩ ?_
  rintro M w1 m3 ⟨i, A', cap', rfl, H2, hp0, hp1, rfl⟩
  refine cw_seq ?_
  refine cw_reg ?_
  refine ry (y_lss rfl rfl rfl) rfl rfl ?_
  refine reg_nil ?_
  refine fn_next ?_
  refine cw_seq ?_
  refine cw_condd rfl (fun h4 => ?_) (fun h4 => ?_)
  · skip
    have hil : i < zs.length := by omega
    have hge := vi_get (k := .i64) hil
    have htk := take_succ_nth hil
    have htl : (zs.take i).length ≤ i := List.length_take_le _ _
    have hsb := sumL_bd hp1.out
    refine cw_skip ?_
    refine fn_next ?_
    refine cw_seq ?_
    refine cw_block ?_
    refine cw_seq ?_
    refine cw_reg ?_
    refine ry (y_iar (hz.below H2.base) rfl rfl rfl kfdir1_1 (rfl) (by omega) (Nat.mul_one _) (hge)) rfl rfl ?_
    refine ry (y_ldr (hz.below H2.base) rfl rfl kfdir1_2 (hge)) rfl rfl ?_
    refine ry (y_asg rfl rfl) rfl rfl ?_
    refine reg_nil ?_
    refine fn_next ?_
    refine cw_seq ?_
    refine cw_seq ?_
    refine cw_reg ?_
    refine ry (y_mov rfl rfl) rfl rfl ?_
    refine ry (y_lss rfl rfl rfl) rfl rfl ?_
    refine ry (y_mov rfl rfl) rfl rfl ?_
    refine rg_splitd (d := 17) rfl (fun h5 => ?_) (fun h5 => ?_)
    · skip
      refine rg_off rfl rfl rfl rfl rfl ?_
      refine rg_off rfl rfl rfl rfl rfl ?_
      refine ry (y_pick rfl rfl rfl) rfl rfl ?_
      refine reg_nil ?_
      refine fn_next ?_
      refine cw_condt rfl ?_
      refine cw_seq ?_
      refine cw_reg ?_
      refine ry (y_asg rfl rfl) rfl rfl ?_
      refine ry (y_asg rfl rfl) rfl rfl ?_
      refine reg_nil ?_
      refine fn_next ?_
      refine cw_ret ?_
      refine fn_then_ret (fn_block_ret (fn_then_ret (fn_then_ret (fn_block_ret (fn_then_ret ?_)))))
      refine fn_retn (vs := [_, _]) rfl ⟨rfl, rfl, trivial⟩ rfl ?_
      exact ⟨rfl, H2.base⟩
    · skip
      refine rgy (y_mov rfl rfl) rfl rfl rfl rfl ?_
      refine rgy (y_gtr rfl rfl rfl) rfl rfl rfl rfl ?_
      refine ry (y_pick rfl rfl rfl) rfl rfl ?_
      refine reg_nil ?_
      refine fn_next ?_
      refine cw_condd rfl (fun h6 => ?_) (fun h6 => ?_)
      · skip
        refine cw_seq ?_
        refine cw_reg ?_
        refine ry (y_asg rfl rfl) rfl rfl ?_
        refine ry (y_asg rfl rfl) rfl rfl ?_
        refine reg_nil ?_
        refine fn_next ?_
        refine cw_ret ?_
        refine fn_then_ret (fn_block_ret (fn_then_ret (fn_then_ret (fn_block_ret (fn_then_ret ?_)))))
        refine fn_retn (vs := [_, _]) rfl ⟨rfl, rfl, trivial⟩ rfl ?_
        exact ⟨rfl, H2.base⟩
      · skip
        refine cw_skip ?_
        refine fn_next ?_
        refine cw_seq ?_
        refine cw_reg ?_
        refine ry (y_mov rfl rfl) rfl rfl ?_
        refine ry (y_mov rfl rfl) rfl rfl ?_
        refine ry (y_mov rfl rfl) rfl rfl ?_
        refine ry (y_build (places := [(0, 1), (1, 1)]) (parts := [(0, _), (1, _)]) (vs := [(0, _), (1, _)]) (cs := [.int _ _, .int _ _]) rfl Tryz.underlying50 (by kernel_rfl) kfdir1_3 rfl ⟨rfl, rfl, trivial⟩ rfl) rfl rfl ?_
        refine reg_op (op_lit (parts := [(0, _)]) (vs := [(0, _)]) (cs := [.int _ _, .int _ _]) H2 rfl Tryz.underlying42 kfdir1_4 rfl ⟨rfl, trivial⟩ rfl rfl) rfl rfl ?_
        rintro _ w8 ⟨b7, rfl, H9⟩
        have H10 := H9.asrow (m := 1) (size := 2) rfl (by decide)
        refine reg_op (op_app (i := 1) H10 rfl rfl rfl rfl (H10.rd (i := 0) rfl) (rfl) (rfl) Tryz.underlying42 kfdir1_5 rfl rfl (by unfold maxLen; omega) (by omega)) rfl rfl ?_
        rintro _ w13 ⟨A11, c12, rfl, H14⟩
        refine ry (y_asg rfl rfl) rfl rfl ?_
        refine reg_nil ?_
        refine fn_next ?_
        refine cw_reg ?_
        refine ry (y_mov rfl rfl) rfl rfl ?_
        refine ry (y_mov rfl rfl) rfl rfl ?_
        refine ry (y_add rfl rfl rfl (wi (by omega))) rfl rfl ?_
        refine ry (y_asg rfl rfl) rfl rfl ?_
        refine reg_nil ?_
        refine fn_block ?_
        refine fn_next ?_
        refine cw_reg ?_
        refine ry (y_add rfl rfl rfl (wi (by omega))) rfl rfl ?_
        refine ry (y_mov rfl rfl) rfl rfl ?_
        refine reg_nil ?_
        rw [vi_app2, ← entF_snoc, ← htk] at H14
        refine fn_roundJ ⟨i + 1, _, _, rfl, (H14.pick [1] rfl (by decide)), by omega, Lib.hid (by rw [htk]; exact okL_snoc hp1.out (by omega)), rfl⟩ ⟨si (by rw [htk, sumL_snoc]; omega), rfl, rfl, trivial⟩ (by omega) (by repeat (first | exact kp_refl | refine kp_app rfl rfl ?_ | refine kp_cons rfl ?_)) rfl
  · skip
    have hie : zs.take i = zs := List.take_of_length_le (by omega)
    exact absurd (by rw [hie] at hp1; exact hp1.out) hno

set_option maxRecDepth 100000 in
theorem must_any (A : Option Addr) (m cap : Nat) (zs : List Int) (k : Nat) (u : Int) (w : World) (hr : Rd w A (vi .u8 zs)) (hl : zs.length = m) (hm : m ≤ 1000000) (h1 : 1 ≤ k) (h2 : k ≤ 8) (hu : 0 ≤ u ∧ u ≤ 9223372036854775807) (hz : u / 256 ^ k = 0) :
    Ret Tryz.prog 76 [.slice A m cap, .int .i64 (k : Int), .int .i64 u] w (fun v w' => ∃ A' cap', v = .slice A' (m + k) cap' ∧ HS w w' [.row A' (m + k) cap' (vi .u8 (zs ++ dgs u k)) 5 1]) := by
  refine ret_enter Tryz.func76 rfl rfl rfl ?_
  have H0 := HS.start w
  refine cw_seq ?_
  refine cw_reg ?_
  refine ry (y_asg rfl rfl) rfl rfl ?_
  refine reg_nil ?_
  refine fn_next ?_
  refine cw_seq ?_
  refine cw_reg ?_
  refine ry (y_mov rfl rfl) rfl rfl ?_
  refine ry (y_mov rfl rfl) rfl rfl ?_
  refine ry (y_mov rfl rfl) rfl rfl ?_
  refine ry (y_conv rfl Tryz.underlying2 Tryz.underlying123 rfl (wu64 (by omega))) rfl rfl ?_
  refine reg_op (op_call (Put_fit A m cap zs k u _ (hr.below H0.base) hl hm h1 h2 (by omega) hz) rfl kfdir1_6 ⟨rfl, rfl, rfl, trivial⟩) rfl rfl ?_
  rintro _ w2 ⟨A4, c5, rfl, k1⟩
  have H3 := H0.call k1
  refine ry (y_mov rfl rfl) rfl rfl ?_
  refine ry (y_ext rfl rfl rfl) rfl rfl ?_
  refine ry (y_ext rfl rfl rfl) rfl rfl ?_
  refine ry (y_asg rfl rfl) rfl rfl ?_
  refine reg_nil ?_
  refine fn_next ?_
  refine cw_seq ?_
  refine cw_reg ?_
  refine ry (y_mov rfl rfl) rfl rfl ?_
  refine ry (y_asg rfl rfl) rfl rfl ?_
  refine reg_nil ?_
  refine fn_next ?_
  refine cw_ret ?_
  refine fn_ret1 rfl rfl ?_
  exact ⟨_, _, rfl, H3⟩

end Go.Proofs.YtbnjbgcadkdljaaGreatDoor
