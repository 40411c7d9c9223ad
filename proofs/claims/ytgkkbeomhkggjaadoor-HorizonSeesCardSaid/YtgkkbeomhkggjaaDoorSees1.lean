/- Layers 23, 25: a straight ray. -/
import Derived.Test.YtgkkbeomhkggjaaDoorLaw48c
import Derived.Test.YtgkkbeomhkggjaaDoorK14
set_option linter.unusedVariables false
set_option linter.unusedSimpArgs false
namespace Go.Proofs.YtgkkbeomhkggjaaDoor
open Go Go.RowKit
theorem kfsees1_1 : fldB Tryd.prog 24 0 0 = true := by kernel_rfl
theorem kfsees1_2 : oneB Tryd.prog 2 = true := by kernel_rfl
theorem kfsees1_3 : fldB Tryd.prog 24 1 1 = true := by kernel_rfl
theorem kfsees1_4 : (Tryd.prog.info? 24).bind (fun i => i.zero.map Value.cells) = some (List.toArray [(.int .i64 0), (.int .i64 0)]) := by kernel_rfl
theorem kfsees1_5 : szB Tryd.prog 24 2 = true := by kernel_rfl
theorem kfsees1_6 : aggB Tryd.prog 24 2 = true := by kernel_rfl
theorem kfsees1_7 : (Tryd.prog.info? 122).bind (fun i => i.zero.map Value.cells) = some (List.toArray [(.int .i64 0), (.int .i64 0), (.int .i64 0), (.int .i64 0), (.int .i64 0), (.int .i64 0)]) := by kernel_rfl
theorem kfsees1_8 : callB Tryd.prog 93 = true := by kernel_rfl
theorem kfsees1_9 : szB Tryd.prog 122 6 = true := by kernel_rfl
theorem kfsees1_10 : aggB Tryd.prog 122 6 = true := by kernel_rfl
theorem kfsees1_11 : callB Tryd.prog 92 = true := by kernel_rfl
theorem kfsees1_12 : callB Tryd.prog 61 = true := by kernel_rfl
theorem kfsees1_13 : callB Tryd.prog 60 = true := by kernel_rfl
theorem kfsees1_14 : (Tryd.prog.info? 24).map (fun i => (i.size, i.zero.map Value.cells)) = some (2, some (List.toArray [(.int .i64 0), (.int .i64 0)])) := by kernel_rfl
theorem kfsees1_15 : fldB Tryd.prog 122 2 2 = true := by kernel_rfl
theorem kfsees1_16 : callB Tryd.prog 62 = true := by kernel_rfl
theorem kfsees1_17 : fldB Tryd.prog 122 1 1 = true := by kernel_rfl
theorem kfsees1_18 : (Tryd.prog.info? 24).map (fun i => (i.zero.map (·.cells.toList), i.size, i.bytes)) = some (some [(.int .i64 0), (.int .i64 0)], 2, 16) := by kernel_rfl
theorem kfsees1_19 : fldB Tryd.prog 122 3 4 = true := by kernel_rfl
def BestS (U O : Nat → Int) (m n : Nat) : Prop := ∀ j, j < n → U j * O m ≤ U m * O j ∧ (j < m → U j * O m < U m * O j)
def OkS (O : Nat → Int) (n : Nat) : Prop := ∀ j, j < n → 1 ≤ O j
theorem best_keep {U O : Nat → Int} {m k : Nat} (hm : m ≤ k) (h : BestS U O m k) (hk : ¬ U m * O k < U k * O m) : BestS U O m (k + 1) := fun j hj => by
  rcases Nat.lt_or_eq_of_le (Nat.le_of_lt_succ hj) with h1 | rfl
  · exact h j h1
  · exact ⟨by omega, fun h => by omega⟩
theorem cross_lt {a p b o c q : Int} (hp : 1 ≤ p) (ho : 1 ≤ o) (hq : 1 ≤ q) (h1 : a * o ≤ b * p) (h2 : b * q < c * o) : a * q < c * p := by
  have e1 : a * o * q ≤ b * p * q := Int.mul_le_mul_of_nonneg_right h1 (by omega)
  have e2 : b * q * p < c * o * p := Int.mul_lt_mul_of_pos_right h2 (by omega)
  rw [Int.mul_right_comm] at e1
  rw [Int.mul_right_comm b q p, Int.mul_right_comm c o p] at e2
  have e3 : a * q * o < c * p * o := by omega
  exact Int.lt_of_mul_lt_mul_right e3 (by omega)
theorem best_turn {U O : Nat → Int} {m k : Nat} (hm : m < k) (hO : OkS O k) (hk1 : 1 ≤ O k) (h : BestS U O m k) (hk : U m * O k < U k * O m) : BestS U O k (k + 1) := fun j hj => by
  rcases Nat.lt_or_eq_of_le (Nat.le_of_lt_succ hj) with h1 | rfl
  · have := cross_lt (hO j h1) (hO m hm) hk1 (h j h1).1 hk
    exact ⟨by omega, fun _ => this⟩
  · exact ⟨Int.le_refl _, fun h => absurd h (Nat.lt_irrefl _)⟩
theorem hO_ok (k : Nat) : OkS hO k := fun j _ => by unfold hO; omega
theorem bst_best (U : Nat → Int) : ∀ k, BestS U hO (bst U (k + 1)) (k + 1)
  | 0 => fun j hj => by
    obtain rfl : j = 0 := by omega
    have e : bst U (0 + 1) = 0 := Nat.le_zero.1 (bst_le U 0)
    rw [e]
    exact ⟨Int.le_refl _, fun h => absurd h (Nat.lt_irrefl _)⟩
  | k + 1 => by
    have ih := bst_best U k
    have hm := bst_le U k
    rw [bst]
    split
    · rename_i q
      exact best_turn (by omega) (hO_ok _) (by unfold hO; omega) ih q
    · rename_i q
      exact best_keep (by omega) ih q
/-- a step's parts -/
def Str (p d : Int) (n : Nat) (q : Int) : Prop := (d = 0 ∧ q = p) ∨ (d = 1 ∧ q = p + n) ∨ (d = -1 ∧ q = p - n)
theorem str_of {p d : Int} {n : Nat} (h1 : -1 ≤ d) (h2 : d ≤ 1) : Str p d n (sX p d n) := by
  unfold Str sX
  rcases (show d = 0 ∨ d = 1 ∨ d = -1 by omega) with rfl | rfl | rfl <;> omega
def wM (dx dy : Int) (n : Nat) : Int := if dx = 0 ∨ dy = 0 then 0 else n
def wPx (dx _dy : Int) : Int := dx
def wPy (dx dy : Int) : Int := if dx = 0 then dy else 0
def wQx (dx _dy : Int) : Int := if dx = 0 then 1 else 0
def wQy (dx dy : Int) : Int := if dx = 0 then 0 else if dy < 0 then -1 else 1

set_option maxRecDepth 100000 in
theorem zCan (x y : Int) (w : World) (hx : 0 ≤ x ∧ x < 1024 ∧ 0 ≤ y ∧ y < 1024) :
    Ret Tryd.prog 92 [.agg #[.int .i64 x, .int .i64 y]] w (fun z w' => z = .bool true ∧ Below w.heap.size w w') := by
 refine ret_enter Tryd.func92 rfl rfl rfl ?_
 have H0 := HS.start w
 refine cw_seq ?_
 refine cw_reg ?_
 refine reg_op (op_box (cs := [.int _ _, .int _ _]) H0 rfl rfl rfl) rfl rfl ?_
 rintro _ w2 ⟨b1, rfl, H3⟩
 refine ry (y_asg rfl rfl) rfl rfl ?_
 refine reg_nil ?_
 refine fn_next ?_
 refine cw_seq ?_
 refine cw_reg ?_
 refine ry (y_fa rfl rfl kfsees1_1 rfl) rfl rfl ?_
 refine ry (y_ld rfl rfl kfsees1_2 (H3.cell (i := 0) rfl rfl)) rfl rfl ?_
 refine ry (y_geq rfl rfl rfl) rfl rfl ?_
 refine ry (y_mov rfl rfl) rfl rfl ?_
 refine rg_splitd (d := 6) rfl (fun h4 => ?_) (fun h4 => ?_)
 ·skip
  refine rgy (y_fa rfl rfl kfsees1_1 rfl) rfl rfl rfl rfl ?_
  refine rgy (y_ld rfl rfl kfsees1_2 (H3.cell (i := 0) rfl rfl)) rfl rfl rfl rfl ?_
  refine rgy (y_lss rfl rfl rfl) rfl rfl rfl rfl ?_
  refine ry (y_pick rfl rfl rfl) rfl rfl ?_
  refine ry (y_mov rfl rfl) rfl rfl ?_
  refine rg_splitd (d := 11) rfl (fun h5 => ?_) (fun h5 => ?_)
  ·skip
   refine rgy (y_fa rfl rfl kfsees1_3 rfl) rfl rfl rfl rfl ?_
   refine rgy (y_ld rfl rfl kfsees1_2 (H3.cell (i := 0) rfl rfl)) rfl rfl rfl rfl ?_
   refine rgy (y_geq rfl rfl rfl) rfl rfl rfl rfl ?_
   refine ry (y_pick rfl rfl rfl) rfl rfl ?_
   refine ry (y_mov rfl rfl) rfl rfl ?_
   refine rg_splitd (d := 16) rfl (fun h6 => ?_) (fun h6 => ?_)
   ·skip
    refine rgy (y_fa rfl rfl kfsees1_3 rfl) rfl rfl rfl rfl ?_
    refine rgy (y_ld rfl rfl kfsees1_2 (H3.cell (i := 0) rfl rfl)) rfl rfl rfl rfl ?_
    refine rgy (y_lss rfl rfl rfl) rfl rfl rfl rfl ?_
    refine ry (y_pick rfl rfl rfl) rfl rfl ?_
    refine ry (y_asg rfl rfl) rfl rfl ?_
    refine reg_nil ?_
    refine fn_next ?_
    refine cw_ret ?_
    refine fn_ret1 rfl rfl ?_
    rw [decide_eq_true (by omega)]
    exact ⟨rfl, H3.base⟩
   · exfalso; omega
  · exfalso; omega
 · exfalso; omega

set_option maxRecDepth 100000 in
theorem zSign (n s m : Int) (w : World) (hm : (n < 0 ∧ s = -1 ∧ m = 0 - n) ∨ (0 ≤ n ∧ s = 1 ∧ m = n)) (hn : -10000 ≤ n ∧ n ≤ 10000) :
    Ret Tryd.prog 93 [.int .i64 n] w (fun z w' => z = .tuple #[.int .i64 s, .int .i64 m] ∧ Below w.heap.size w w') := by
 refine ret_enter Tryd.func93 rfl rfl rfl ?_
 have H0 := HS.start w
 refine cw_seq ?_
 refine cw_reg ?_
 refine ry (y_asg rfl rfl) rfl rfl ?_
 refine ry (y_asg rfl rfl) rfl rfl ?_
 refine reg_nil ?_
 refine fn_next ?_
 refine cw_seq ?_
 refine cw_seq ?_
 refine cw_reg ?_
 refine ry (y_mov rfl rfl) rfl rfl ?_
 refine ry (y_lss rfl rfl rfl) rfl rfl ?_
 refine reg_nil ?_
 refine fn_next ?_
 refine cw_condd rfl (fun h1 => ?_) (fun h1 => ?_)
 ·skip
  refine cw_seq ?_
  refine cw_reg ?_
  refine ry (y_mov rfl rfl) rfl rfl ?_
  refine ry (y_neg rfl rfl (wi (by omega))) rfl rfl ?_
  refine ry (y_asg rfl rfl) rfl rfl ?_
  refine ry (y_asg rfl rfl) rfl rfl ?_
  refine reg_nil ?_
  refine fn_next ?_
  refine cw_ret ?_
  refine fn_then_ret ?_
  refine fn_retn (vs := [_, _]) rfl ⟨rfl, rfl, trivial⟩ rfl ?_
  rcases hm with ⟨q, rfl, rfl⟩ | ⟨q, rfl, rfl⟩
  · first | exact ⟨rfl, H0.base⟩ | (exfalso; omega)
  · first | exact ⟨rfl, H0.base⟩ | (exfalso; omega)
 ·skip
  refine cw_skip ?_
  refine fn_next ?_
  refine cw_seq ?_
  refine cw_reg ?_
  refine ry (y_mov rfl rfl) rfl rfl ?_
  refine ry (y_asg rfl rfl) rfl rfl ?_
  refine ry (y_asg rfl rfl) rfl rfl ?_
  refine reg_nil ?_
  refine fn_next ?_
  refine cw_ret ?_
  refine fn_retn (vs := [_, _]) rfl ⟨rfl, rfl, trivial⟩ rfl ?_
  rcases hm with ⟨q, rfl, rfl⟩ | ⟨q, rfl, rfl⟩
  · first | exact ⟨rfl, H0.base⟩ | (exfalso; omega)
  · first | exact ⟨rfl, H0.base⟩ | (exfalso; omega)

set_option maxRecDepth 100000 in
theorem zPlus1 (x y p q : Int) (w : World) (hx : -10000 ≤ x ∧ x ≤ 10000) (hy : -10000 ≤ y ∧ y ≤ 10000) (hp : -10 ≤ p ∧ p ≤ 10) (hq : -10 ≤ q ∧ q ≤ 10) :
    Ret Tryd.prog 62 [.agg #[.int .i64 x, .int .i64 y], .agg #[.int .i64 p, .int .i64 q], .int .i64 1] w (fun z w' => z = .agg #[.int .i64 (x + p), .int .i64 (y + q)] ∧ Below w.heap.size w w') := by
 refine ret_enter Tryd.func62 rfl rfl rfl ?_
 have H0 := HS.start w
 refine cw_seq ?_
 refine cw_reg ?_
 refine reg_op (op_box (cs := [.int _ _, .int _ _]) H0 rfl rfl rfl) rfl rfl ?_
 rintro _ w2 ⟨b1, rfl, H3⟩
 refine reg_op (op_box (cs := [.int _ _, .int _ _]) H3 rfl rfl rfl) rfl rfl ?_
 rintro _ w5 ⟨b4, rfl, H6⟩
 refine reg_op (op_alloc H6 rfl kfsees1_4) rfl rfl ?_
 rintro _ w8 ⟨b7, rfl, H9⟩
 refine reg_nil ?_
 refine fn_next ?_
 refine cw_seq ?_
 refine cw_reg ?_
 refine ry (y_fa rfl rfl kfsees1_1 rfl) rfl rfl ?_
 refine ry (y_ld rfl rfl kfsees1_2 (H9.cell (i := 2) rfl rfl)) rfl rfl ?_
 refine ry (y_mov rfl rfl) rfl rfl ?_
 refine ry (y_fa rfl rfl kfsees1_1 rfl) rfl rfl ?_
 refine ry (y_ld rfl rfl kfsees1_2 (H9.cell (i := 1) rfl rfl)) rfl rfl ?_
 refine ry (y_mul rfl rfl rfl (show _ = p from (wi (by omega)).trans (by omega))) rfl rfl ?_
 refine ry (y_add rfl rfl rfl (wi (by omega))) rfl rfl ?_
 refine ry (y_fa rfl rfl kfsees1_3 rfl) rfl rfl ?_
 refine ry (y_ld rfl rfl kfsees1_2 (H9.cell (i := 2) rfl rfl)) rfl rfl ?_
 refine ry (y_mov rfl rfl) rfl rfl ?_
 refine ry (y_fa rfl rfl kfsees1_3 rfl) rfl rfl ?_
 refine ry (y_ld rfl rfl kfsees1_2 (H9.cell (i := 1) rfl rfl)) rfl rfl ?_
 refine ry (y_mul rfl rfl rfl (show _ = q from (wi (by omega)).trans (by omega))) rfl rfl ?_
 refine ry (y_add rfl rfl rfl (wi (by omega))) rfl rfl ?_
 refine ry (y_build (places := [(0, 1), (1, 1)]) (parts := [(0, _), (1, _)]) (vs := [(0, _), (1, _)]) (cs := [.int _ _, .int _ _]) rfl Tryd.underlying24 (by kernel_rfl) kfsees1_4 rfl ⟨rfl, rfl, trivial⟩ rfl) rfl rfl ?_
 refine reg_op (op_st (i := 0) (vs := [.int _ _, .int _ _]) H9 rfl rfl rfl rfl rfl kfsees1_5 rfl rfl rfl) rfl rfl ?_
 rintro _ w10 H11
 refine reg_nil ?_
 refine fn_next ?_
 refine cw_ret ?_
 refine fn_ret1 rfl (⟨_, rfl, load_agg (cs := [_, _]) kfsees1_6 rfl fun j v hv => by rw [Nat.zero_add]; exact H11.cell (i := 0) rfl hv⟩) ?_
 exact ⟨rfl, H11.base⟩

def OfP (dx dy mu px py qx qy : Int) (n : Nat) : Prop := (dx = 0 ∧ mu = 0 ∧ px = 0 ∧ py = dy ∧ qx = 1 ∧ qy = 0) ∨ (¬ dx = 0 ∧ px = dx ∧ py = 0 ∧ qx = 0 ∧ ((dy < 0 ∧ qy = -1 ∧ mu = n) ∨ (dy = 0 ∧ qy = 1 ∧ mu = 0) ∨ (0 < dy ∧ qy = 1 ∧ mu = n)))
theorem ofP_ex (dx dy : Int) (n : Nat) : ∃ mu px py qx qy, OfP dx dy mu px py qx qy n := by
  by_cases h : dx = 0
  · exact ⟨0, 0, dy, 1, 0, .inl ⟨h, rfl, rfl, rfl, rfl, rfl⟩⟩
  · rcases Int.lt_trichotomy dy 0 with q | q | q
    · exact ⟨n, dx, 0, 0, -1, .inr ⟨h, rfl, rfl, rfl, .inl ⟨q, rfl, rfl⟩⟩⟩
    · exact ⟨0, dx, 0, 0, 1, .inr ⟨h, rfl, rfl, rfl, .inr (.inl ⟨q, rfl, rfl⟩)⟩⟩
    · exact ⟨n, dx, 0, 0, 1, .inr ⟨h, rfl, rfl, rfl, .inr (.inr ⟨q, rfl, rfl⟩)⟩⟩
theorem ofP_two {dx dy mu px py qx qy : Int} {n : Nat} (h : OfP dx dy mu px py qx qy n) (d : OkD dx dy) : (mu = 0 ∧ px = dx ∧ py = dy) ∨ (mu = n ∧ px + qx = dx ∧ py + qy = dy) := by
  have := d.x1; have := d.x2; have := d.y1; have := d.y2
  unfold OfP at h; omega
theorem ofP_bd {dx dy mu px py qx qy : Int} {n : Nat} (h : OfP dx dy mu px py qx qy n) (d : OkD dx dy) : (-1 ≤ px ∧ px ≤ 1 ∧ -1 ≤ py ∧ py ≤ 1) ∧ (-1 ≤ qx ∧ qx ≤ 1 ∧ -1 ≤ qy ∧ qy ≤ 1) := by
  have := d.x1; have := d.x2; have := d.y1; have := d.y2
  unfold OfP at h; omega

set_option maxRecDepth 100000 in
theorem zOf (cx cy bx yy dx dy : Int) (n : Nat) (mu px py qx qy : Int) (w : World) (hsx : Str cx dx n bx) (hsy : Str cy dy n yy) (d : OkD dx dy) (hn1 : 1 ≤ n) (hn2 : n ≤ 2000) (hw : OfP dx dy mu px py qx qy n) (hc : 0 ≤ cx ∧ cx < 1024 ∧ 0 ≤ cy ∧ cy < 1024) (hb : 0 ≤ bx ∧ bx < 1024 ∧ 0 ≤ yy ∧ yy < 1024) :
    Ret Tryd.prog 61 [.agg #[.int .i64 cx, .int .i64 cy], .agg #[.int .i64 bx, .int .i64 yy]] w (fun z w' => z = .agg #[.int .i64 (n : Int), .int .i64 mu, .int .i64 px, .int .i64 py, .int .i64 qx, .int .i64 qy] ∧ Below w.heap.size w w') := by
 have d1 := d.x1
 have d2 := d.x2
 have d3 := d.y1
 have d4 := d.y2
 have d5 := d.n
 unfold Str at hsx hsy
 obtain ⟨sx, mx, hmx⟩ : ∃ s m : Int, (bx - cx < 0 ∧ s = -1 ∧ m = 0 - (bx - cx)) ∨ (0 ≤ bx - cx ∧ s = 1 ∧ m = bx - cx) := by rcases Int.lt_or_le (bx - cx) 0 with q | q; exact ⟨_, _, .inl ⟨q, rfl, rfl⟩⟩; exact ⟨_, _, .inr ⟨q, rfl, rfl⟩⟩
 obtain ⟨sy, my, hmy⟩ : ∃ s m : Int, (yy - cy < 0 ∧ s = -1 ∧ m = 0 - (yy - cy)) ∨ (0 ≤ yy - cy ∧ s = 1 ∧ m = yy - cy) := by rcases Int.lt_or_le (yy - cy) 0 with q | q; exact ⟨_, _, .inl ⟨q, rfl, rfl⟩⟩; exact ⟨_, _, .inr ⟨q, rfl, rfl⟩⟩
 unfold OfP at hw
 refine ret_enter Tryd.func61 rfl rfl rfl ?_
 have H0 := HS.start w
 refine cw_seq ?_
 refine cw_reg ?_
 refine reg_op (op_box (cs := [.int _ _, .int _ _]) H0 rfl rfl rfl) rfl rfl ?_
 rintro _ w2 ⟨b1, rfl, H3⟩
 refine reg_op (op_box (cs := [.int _ _, .int _ _]) H3 rfl rfl rfl) rfl rfl ?_
 rintro _ w5 ⟨b4, rfl, H6⟩
 refine reg_op (op_alloc H6 rfl kfsees1_7) rfl rfl ?_
 rintro _ w8 ⟨b7, rfl, H9⟩
 refine reg_nil ?_
 refine fn_next ?_
 refine cw_seq ?_
 refine cw_reg ?_
 refine ry (y_fa rfl rfl kfsees1_1 rfl) rfl rfl ?_
 refine ry (y_ld rfl rfl kfsees1_2 (H9.cell (i := 1) rfl rfl)) rfl rfl ?_
 refine ry (y_fa rfl rfl kfsees1_1 rfl) rfl rfl ?_
 refine ry (y_ld rfl rfl kfsees1_2 (H9.cell (i := 2) rfl rfl)) rfl rfl ?_
 refine ry (y_sub rfl rfl rfl (wi (by omega))) rfl rfl ?_
 refine reg_op (op_call (zSign (bx - cx) sx mx _ hmx (by omega)) rfl kfsees1_8 ⟨rfl, trivial⟩) rfl rfl ?_
 rintro _ w11 ⟨rfl, e10⟩
 have H12 := H9.ext e10
 refine ry (y_mov rfl rfl) rfl rfl ?_
 refine ry (y_ext rfl rfl rfl) rfl rfl ?_
 refine ry (y_ext rfl rfl rfl) rfl rfl ?_
 refine ry (y_asg rfl rfl) rfl rfl ?_
 refine ry (y_asg rfl rfl) rfl rfl ?_
 refine reg_nil ?_
 refine fn_next ?_
 refine cw_seq ?_
 refine cw_reg ?_
 refine ry (y_fa rfl rfl kfsees1_3 rfl) rfl rfl ?_
 refine ry (y_ld rfl rfl kfsees1_2 (H12.cell (i := 1) rfl rfl)) rfl rfl ?_
 refine ry (y_fa rfl rfl kfsees1_3 rfl) rfl rfl ?_
 refine ry (y_ld rfl rfl kfsees1_2 (H12.cell (i := 2) rfl rfl)) rfl rfl ?_
 refine ry (y_sub rfl rfl rfl (wi (by omega))) rfl rfl ?_
 refine reg_op (op_call (zSign (yy - cy) sy my _ hmy (by omega)) rfl kfsees1_8 ⟨rfl, trivial⟩) rfl rfl ?_
 rintro _ w14 ⟨rfl, e13⟩
 have H15 := H12.ext e13
 refine ry (y_mov rfl rfl) rfl rfl ?_
 refine ry (y_ext rfl rfl rfl) rfl rfl ?_
 refine ry (y_ext rfl rfl rfl) rfl rfl ?_
 refine ry (y_asg rfl rfl) rfl rfl ?_
 refine ry (y_asg rfl rfl) rfl rfl ?_
 refine reg_nil ?_
 refine fn_next ?_
 refine cw_seq ?_
 refine cw_seq ?_
 refine cw_reg ?_
 refine ry (y_mov rfl rfl) rfl rfl ?_
 refine ry (y_mov rfl rfl) rfl rfl ?_
 refine ry (y_gtr rfl rfl rfl) rfl rfl ?_
 refine reg_nil ?_
 refine fn_next ?_
 refine cw_condd rfl (fun h16 => ?_) (fun h16 => ?_)
 ·skip
  refine cw_seq ?_
  refine cw_reg ?_
  refine ry (y_mov rfl rfl) rfl rfl ?_
  refine ry (y_mov rfl rfl) rfl rfl ?_
  refine ry (y_mov rfl rfl) rfl rfl ?_
  refine ry (y_build (places := [(0, 1), (1, 1)]) (parts := [(1, _)]) (vs := [(1, _)]) (cs := [.int _ _, .int _ _]) rfl Tryd.underlying24 (by kernel_rfl) kfsees1_4 rfl ⟨rfl, trivial⟩ rfl) rfl rfl ?_
  refine ry (y_mov rfl rfl) rfl rfl ?_
  refine ry (y_build (places := [(0, 1), (1, 1)]) (parts := [(0, _)]) (vs := [(0, _)]) (cs := [.int _ _, .int _ _]) rfl Tryd.underlying24 (by kernel_rfl) kfsees1_4 rfl ⟨rfl, trivial⟩ rfl) rfl rfl ?_
  refine ry (y_buildL (places := [(0, 1), (1, 1), (2, 2), (4, 2)]) (parts := [(0, _), (1, _), (2, _), (3, _)]) (vs := [(0, _), (1, _), (2, _), (3, _)]) (cs := [.int _ _, .int _ _, .int _ _, .int _ _, .int _ _, .int _ _]) [(0, [_]), (1, [_]), (2, [_, _]), (3, [_, _])] rfl Tryd.underlying122 (by kernel_rfl) kfsees1_7 rfl ⟨rfl, rfl, rfl, rfl, trivial⟩ rfl rfl) rfl rfl ?_
  refine reg_op (op_st (i := 0) (vs := [.int _ _, .int _ _, .int _ _, .int _ _, .int _ _, .int _ _]) H15 rfl rfl rfl rfl rfl kfsees1_9 rfl rfl rfl) rfl rfl ?_
  rintro _ w17 H18
  refine reg_nil ?_
  refine fn_next ?_
  refine cw_ret ?_
  refine fn_then_ret ?_
  refine fn_ret1 rfl (⟨_, rfl, load_agg (cs := [_, _, _, _, _, _]) kfsees1_10 rfl fun j v hv => by rw [Nat.zero_add]; exact H18.cell (i := 0) rfl hv⟩) ?_
  refine ⟨?_, H18.base⟩
  obtain ⟨rfl, rfl, rfl, rfl, rfl, rfl⟩ : my = n ∧ mx = mu ∧ px = 0 ∧ sy = py ∧ sx = qx ∧ qy = 0 := by omega
  rfl
 ·skip
  refine cw_skip ?_
  refine fn_next ?_
  refine cw_seq ?_
  refine cw_reg ?_
  refine ry (y_mov rfl rfl) rfl rfl ?_
  refine ry (y_mov rfl rfl) rfl rfl ?_
  refine ry (y_mov rfl rfl) rfl rfl ?_
  refine ry (y_build (places := [(0, 1), (1, 1)]) (parts := [(0, _)]) (vs := [(0, _)]) (cs := [.int _ _, .int _ _]) rfl Tryd.underlying24 (by kernel_rfl) kfsees1_4 rfl ⟨rfl, trivial⟩ rfl) rfl rfl ?_
  refine ry (y_mov rfl rfl) rfl rfl ?_
  refine ry (y_build (places := [(0, 1), (1, 1)]) (parts := [(1, _)]) (vs := [(1, _)]) (cs := [.int _ _, .int _ _]) rfl Tryd.underlying24 (by kernel_rfl) kfsees1_4 rfl ⟨rfl, trivial⟩ rfl) rfl rfl ?_
  refine ry (y_buildL (places := [(0, 1), (1, 1), (2, 2), (4, 2)]) (parts := [(0, _), (1, _), (2, _), (3, _)]) (vs := [(0, _), (1, _), (2, _), (3, _)]) (cs := [.int _ _, .int _ _, .int _ _, .int _ _, .int _ _, .int _ _]) [(0, [_]), (1, [_]), (2, [_, _]), (3, [_, _])] rfl Tryd.underlying122 (by kernel_rfl) kfsees1_7 rfl ⟨rfl, rfl, rfl, rfl, trivial⟩ rfl rfl) rfl rfl ?_
  refine reg_op (op_st (i := 0) (vs := [.int _ _, .int _ _, .int _ _, .int _ _, .int _ _, .int _ _]) H15 rfl rfl rfl rfl rfl kfsees1_9 rfl rfl rfl) rfl rfl ?_
  rintro _ w19 H20
  refine reg_nil ?_
  refine fn_next ?_
  refine cw_ret ?_
  refine fn_ret1 rfl (⟨_, rfl, load_agg (cs := [_, _, _, _, _, _]) kfsees1_10 rfl fun j v hv => by rw [Nat.zero_add]; exact H20.cell (i := 0) rfl hv⟩) ?_
  refine ⟨?_, H20.base⟩
  obtain ⟨rfl, rfl, rfl, rfl, rfl, rfl⟩ : mx = n ∧ my = mu ∧ sx = px ∧ py = 0 ∧ qx = 0 ∧ sy = qy := by omega
  rfl

set_option maxRecDepth 100000 in
theorem zLen (cx cy bx yy dx dy : Int) (n : Nat) (mu px py qx qy : Int) (w : World) (hsx : Str cx dx n bx) (hsy : Str cy dy n yy) (d : OkD dx dy) (hn1 : 1 ≤ n) (hn2 : n ≤ 2000) (hw : OfP dx dy mu px py qx qy n) (hc : 0 ≤ cx ∧ cx < 1024 ∧ 0 ≤ cy ∧ cy < 1024) (hb : 0 ≤ bx ∧ bx < 1024 ∧ 0 ≤ yy ∧ yy < 1024) :
    Ret Tryd.prog 60 [.agg #[.int .i64 cx, .int .i64 cy], .agg #[.int .i64 bx, .int .i64 yy]] w (fun z w' => z = .tuple #[.int .i64 (n : Int), .int .i64 0] ∧ Below w.heap.size w w') := by
 refine ret_enter Tryd.func60 rfl rfl rfl ?_
 have H0 := HS.start w
 refine cw_seq ?_
 refine cw_reg ?_
 refine reg_op (op_box (cs := [.int _ _, .int _ _]) H0 rfl rfl rfl) rfl rfl ?_
 rintro _ w2 ⟨b1, rfl, H3⟩
 refine reg_op (op_box (cs := [.int _ _, .int _ _]) H3 rfl rfl rfl) rfl rfl ?_
 rintro _ w5 ⟨b4, rfl, H6⟩
 refine ry (y_asg rfl rfl) rfl rfl ?_
 refine ry (y_asg rfl rfl) rfl rfl ?_
 refine reg_nil ?_
 refine fn_next ?_
 refine cw_seq ?_
 refine cw_seq ?_
 refine cw_reg ?_
 refine ry (y_ldb (i := 1) (cs := [_, _]) H6 rfl rfl kfsees1_6 rfl rfl) rfl rfl ?_
 refine reg_op (op_call (zCan cx cy _ hc) rfl kfsees1_11 ⟨rfl, trivial⟩) rfl rfl ?_
 rintro _ w8 ⟨rfl, e7⟩
 have H9 := H6.ext e7
 refine ry (y_not rfl rfl) rfl rfl ?_
 refine ry (y_mov rfl rfl) rfl rfl ?_
 refine rgy (y_ldb (i := 0) (cs := [_, _]) H9 rfl rfl kfsees1_6 rfl rfl) rfl rfl rfl rfl ?_
 refine rg_on rfl rfl rfl (op_call (zCan bx yy _ hb) rfl kfsees1_11 ⟨rfl, trivial⟩) rfl ?_
 rintro _ w11 ⟨rfl, e10⟩
 have H12 := H9.ext e10
 refine rgy (y_not rfl rfl) rfl rfl rfl rfl ?_
 refine ry (y_pick rfl rfl rfl) rfl rfl ?_
 refine reg_nil ?_
 refine fn_next ?_
 refine cw_condf rfl ?_
 refine cw_skip ?_
 refine fn_next ?_
 refine cw_seq ?_
 refine cw_reg ?_
 refine ry (y_ldb (i := 1) (cs := [_, _]) H12 rfl rfl kfsees1_6 rfl rfl) rfl rfl ?_
 refine ry (y_ldb (i := 0) (cs := [_, _]) H12 rfl rfl kfsees1_6 rfl rfl) rfl rfl ?_
 refine reg_op (op_call (zOf cx cy bx yy dx dy n mu px py qx qy _ hsx hsy d hn1 hn2 hw hc hb) rfl kfsees1_12 ⟨rfl, rfl, trivial⟩) rfl rfl ?_
 rintro _ w14 ⟨rfl, e13⟩
 have H15 := H12.ext e13
 refine ry (y_field1 rfl Tryd.underlying122 rfl rfl kfsees1_2 rfl) rfl rfl ?_
 refine ry (y_asg rfl rfl) rfl rfl ?_
 refine ry (y_asg rfl rfl) rfl rfl ?_
 refine reg_nil ?_
 refine fn_next ?_
 refine cw_ret ?_
 refine fn_retn (vs := [_, _]) rfl ⟨rfl, rfl, trivial⟩ rfl ?_
 exact ⟨rfl, H15.base⟩

theorem str_bd {p d q : Int} {n k : Nat} (h : Str p d n q) (hk : k ≤ n) (hp : 0 ≤ p ∧ p < 1024) (hq : 0 ≤ q ∧ q < 1024) : 0 ≤ sX p d k ∧ sX p d k < 1024 := by
  unfold Str at h; unfold sX
  rcases h with ⟨rfl, e⟩ | ⟨rfl, e⟩ | ⟨rfl, e⟩ <;> omega
theorem sX_bd {cx cy dx dy bx yy : Int} {n k : Nat} (hsx : Str cx dx n bx) (hsy : Str cy dy n yy) (hk : k ≤ n) (hc : 0 ≤ cx ∧ cx < 1024 ∧ 0 ≤ cy ∧ cy < 1024) (hb : 0 ≤ bx ∧ bx < 1024 ∧ 0 ≤ yy ∧ yy < 1024) : (0 ≤ sX cx dx k ∧ sX cx dx k < 1024) ∧ (0 ≤ sX cy dy k ∧ sX cy dy k < 1024) :=
  ⟨str_bd hsx hk ⟨hc.1, hc.2.1⟩ ⟨hb.1, hb.2.1⟩, str_bd hsy hk ⟨hc.2.2.1, hc.2.2.2⟩ ⟨hb.2.2.1, hb.2.2.2⟩⟩

set_option maxRecDepth 100000 in
set_option maxHeartbeats 1000000 in
theorem zRow0 (cx cy bx yy dx dy : Int) (n : Nat) (mu px py qx qy : Int) (w : World) (hsx : Str cx dx n bx) (hsy : Str cy dy n yy) (d : OkD dx dy) (hn1 : 1 ≤ n) (hn2 : n ≤ 2000) (hw : OfP dx dy mu px py qx qy n) (hc : 0 ≤ cx ∧ cx < 1024 ∧ 0 ≤ cy ∧ cy < 1024) (hb : 0 ≤ bx ∧ bx < 1024 ∧ 0 ≤ yy ∧ yy < 1024) (hM : mu = 0 ∧ px = dx ∧ py = dy) :
    Ret Tryd.prog 58 [.agg #[.int .i64 cx, .int .i64 cy], .agg #[.int .i64 bx, .int .i64 yy]] w (fun z w' => ∃ A c, z = .tuple #[.slice A (n + 1) c, .int .i64 0] ∧ HS w w' [.row A (n + 1) c (vi .i64 (pr (sX cx dx) (sX cy dy) (n + 1))) 24 2]) := by
 have hbd := ofP_bd hw d
 have hM1 := hM.1
 have d1 := d.x1
 have d2 := d.x2
 have d3 := d.y1
 have d4 := d.y2
 refine ret_enter Tryd.func58 rfl rfl rfl ?_
 have H0 := HS.start w
 refine cw_seq ?_
 refine cw_reg ?_
 refine reg_op (op_box (cs := [.int _ _, .int _ _]) H0 rfl rfl rfl) rfl rfl ?_
 rintro _ w2 ⟨b1, rfl, H3⟩
 refine reg_op (op_box (cs := [.int _ _, .int _ _]) H3 rfl rfl rfl) rfl rfl ?_
 rintro _ w5 ⟨b4, rfl, H6⟩
 refine ry (y_asg rfl rfl) rfl rfl ?_
 refine ry (y_asg rfl rfl) rfl rfl ?_
 refine reg_nil ?_
 refine fn_next ?_
 refine cw_seq ?_
 refine cw_reg ?_
 refine ry (y_ldb (i := 1) (cs := [_, _]) H6 rfl rfl kfsees1_6 rfl rfl) rfl rfl ?_
 refine ry (y_ldb (i := 0) (cs := [_, _]) H6 rfl rfl kfsees1_6 rfl rfl) rfl rfl ?_
 refine reg_op (op_call (zLen cx cy bx yy dx dy n mu px py qx qy _ hsx hsy d hn1 hn2 hw hc hb) rfl kfsees1_13 ⟨rfl, rfl, trivial⟩) rfl rfl ?_
 rintro _ w8 ⟨rfl, e7⟩
 have H9 := H6.ext e7
 refine ry (y_mov rfl rfl) rfl rfl ?_
 refine ry (y_ext rfl rfl rfl) rfl rfl ?_
 refine ry (y_ext rfl rfl rfl) rfl rfl ?_
 refine ry (y_asg rfl rfl) rfl rfl ?_
 refine ry (y_asg rfl rfl) rfl rfl ?_
 refine reg_nil ?_
 refine fn_next ?_
 refine cw_seq ?_
 refine cw_seq ?_
 refine cw_reg ?_
 refine ry (y_mov rfl rfl) rfl rfl ?_
 refine ry (y_neq rfl rfl rfl) rfl rfl ?_
 refine reg_nil ?_
 refine fn_next ?_
 refine cw_condf rfl ?_
 refine cw_skip ?_
 refine fn_next ?_
 refine cw_seq ?_
 refine cw_reg ?_
 refine ry (y_ldb (i := 1) (cs := [_, _]) H9 rfl rfl kfsees1_6 rfl rfl) rfl rfl ?_
 refine ry (y_ldb (i := 0) (cs := [_, _]) H9 rfl rfl kfsees1_6 rfl rfl) rfl rfl ?_
 refine reg_op (op_call (zOf cx cy bx yy dx dy n mu px py qx qy _ hsx hsy d hn1 hn2 hw hc hb) rfl kfsees1_12 ⟨rfl, rfl, trivial⟩) rfl rfl ?_
 rintro _ w11 ⟨rfl, e10⟩
 have H12 := H9.ext e10
 refine reg_op (op_alloc H12 rfl kfsees1_7) rfl rfl ?_
 rintro _ w14 ⟨b13, rfl, H15⟩
 refine reg_op (op_st (i := 0) (vs := [.int _ _, .int _ _, .int _ _, .int _ _, .int _ _, .int _ _]) H15 rfl rfl rfl rfl rfl kfsees1_9 rfl rfl rfl) rfl rfl ?_
 rintro _ w16 H17
 refine reg_nil ?_
 refine fn_next ?_
 refine cw_seq ?_
 refine cw_reg ?_
 refine ry (y_ldb (i := 2) (cs := [_, _]) H17 rfl rfl kfsees1_6 rfl rfl) rfl rfl ?_
 refine reg_op (op_lit (parts := [(0, _)]) (vs := [(0, _)]) (cs := [.int _ _, .int _ _]) H17 rfl Tryd.underlying72 kfsees1_14 rfl ⟨rfl, trivial⟩ rfl rfl) rfl rfl ?_
 rintro _ w19 ⟨b18, rfl, H20⟩
 have H21 := H20.asrow (m := 1) (size := 2) rfl (by decide)
 refine ry (y_asg rfl rfl) rfl rfl ?_
 refine reg_nil ?_
 refine fn_next ?_
 refine cw_seq ?_
 refine cw_reg ?_
 refine ry (y_mov rfl rfl) rfl rfl ?_
 refine ry (y_asg rfl rfl) rfl rfl ?_
 refine reg_nil ?_
 refine fn_next ?_
 refine cw_seq ?_
 refine cw_seq ?_
 refine cw_reg ?_
 refine ry (y_mov rfl rfl) rfl rfl ?_
 refine ry (y_mov rfl rfl) rfl rfl ?_
 refine reg_nil ?_
 refine fn_next ?_
 refine cw_block ?_
 rw [← sX0 cx dx, ← sX0 cy dy] at H21
 refine cw_loopJ [9, 10, 27, 28, 29, 30, 31, 32, 33, 34, 35, 36, 37, 38, 39, 40, 41, 42, 43, 44, 45, 46, 47, 48, 49, 50, 51, 52, 53, 54] (fun M wl ml => ∃ (k : Nat) (A1 : Option Addr) (c1 : Nat), M = [(27, .int .i64 (k : Int)), (10, .int .i64 (n : Int)), (9, .slice A1 (k + 1) c1)] ∧ HS w wl [Ob.row A1 (k + 1) c1 (vi .i64 (pr (sX cx dx) (sX cy dy) (k + 1))) 24 2, Ob.blk b13 [.int .i64 (n : Int), .int .i64 mu, .int .i64 px, .int .i64 py, .int .i64 qx, .int .i64 qy] 122, Ob.blk b4 [.int .i64 bx, .int .i64 yy] 24, Ob.blk b1 [.int .i64 (sX cx dx k), .int .i64 (sX cy dy k)] 24] ∧ (k ≤ n) ∧ ml = n - k) ⟨0, _, _, rfl, H21, Nat.zero_le _, rfl⟩ ⟨rfl, rfl, rfl, trivial⟩ ?_
 rintro M w22 m24 ⟨k, A1, c1, rfl, H23, hp0, rfl⟩
 have hsk := sX_bd hsx hsy hp0 hc hb
 refine cw_seq ?_
 refine cw_reg ?_
 refine ry (y_lss rfl rfl rfl) rfl rfl ?_
 refine reg_nil ?_
 refine fn_next ?_
 refine cw_seq ?_
 refine cw_condd rfl (fun h25 => ?_) (fun h25 => ?_)
 ·skip
  refine cw_skip ?_
  refine fn_next ?_
  refine cw_seq ?_
  refine cw_block ?_
  refine cw_seq ?_
  refine cw_reg ?_
  refine ry (y_ldb (i := 3) (cs := [_, _]) H23 rfl rfl kfsees1_6 rfl rfl) rfl rfl ?_
  refine ry (y_fa rfl rfl kfsees1_15 rfl) rfl rfl ?_
  refine ry (y_lda (cs := [_, _]) rfl rfl kfsees1_6 rfl (fun j v hv => H23.cell (i := 1) rfl (lst_part (a := 2) (m := 2) hv))) rfl rfl ?_
  refine reg_op (op_call (ret_v (v := .agg #[.int .i64 (sX cx dx (k + 1)), .int .i64 (sX cy dy (k + 1))]) (zPlus1 (sX cx dx k) (sX cy dy k) px py _ (by omega) (by omega) (by omega) (by omega)) (by rw [hM.2.1, hM.2.2, sXs, sXs])) rfl kfsees1_16 ⟨rfl, rfl, rfl, trivial⟩) rfl rfl ?_
  rintro _ w27 ⟨rfl, e26⟩
  have H28 := H23.ext e26
  refine reg_op (op_st (i := 3) (vs := [.int _ _, .int _ _]) H28 rfl rfl rfl rfl rfl kfsees1_5 rfl rfl rfl) rfl rfl ?_
  rintro _ w29 H30
  refine reg_nil ?_
  refine fn_next ?_
  refine cw_seq ?_
  refine cw_seq ?_
  refine cw_reg ?_
  refine ry (y_mov rfl rfl) rfl rfl ?_
  refine ry (y_fa rfl rfl kfsees1_17 rfl) rfl rfl ?_
  refine ry (y_ld rfl rfl kfsees1_2 (H30.cell (i := 1) rfl rfl)) rfl rfl ?_
  refine ry (y_mul rfl rfl rfl (wi (by omega))) rfl rfl ?_
  refine ry (y_add rfl rfl rfl (show _ = (n : Int) from (wi (by omega)).trans (by omega))) rfl rfl ?_
  refine ry (y_asg rfl rfl) rfl rfl ?_
  refine reg_nil ?_
  refine fn_next ?_
  refine cw_seq ?_
  refine cw_reg ?_
  refine ry (y_mov rfl rfl) rfl rfl ?_
  refine ry (y_mov rfl rfl) rfl rfl ?_
  refine ry (y_mul rfl rfl rfl (wi (by omega))) rfl rfl ?_
  refine ry (y_geq rfl rfl rfl) rfl rfl ?_
  refine reg_nil ?_
  refine fn_next ?_
  refine cw_condd rfl (fun h31 => ?_) (fun h31 => ?_)
  · exfalso; omega
  ·skip
   refine cw_skip ?_
   refine fn_next ?_
   refine cw_reg ?_
   refine ry (y_mov rfl rfl) rfl rfl ?_
   refine ry (y_ldb (i := 3) (cs := [_, _]) H30 rfl rfl kfsees1_6 rfl rfl) rfl rfl ?_
   refine reg_op (op_lit (parts := [(0, _)]) (vs := [(0, _)]) (cs := [.int _ _, .int _ _]) H30 rfl Tryd.underlying72 kfsees1_14 rfl ⟨rfl, trivial⟩ rfl rfl) rfl rfl ?_
   rintro _ w33 ⟨b32, rfl, H34⟩
   have H35 := H34.asrow (m := 1) (size := 2) rfl (by decide)
   refine reg_op (op_app (i := 1) H35 rfl rfl rfl rfl (H35.rd (i := 0) rfl) (rfl) (rfl) Tryd.underlying72 kfsees1_18 rfl rfl (by unfold maxLen; omega) (by omega)) rfl rfl ?_
   rintro _ w38 ⟨A36, c37, rfl, H39⟩
   refine ry (y_asg rfl rfl) rfl rfl ?_
   refine reg_nil ?_
   refine fn_block ?_
   refine fn_next ?_
   refine cw_reg ?_
   refine ry (y_add rfl rfl rfl (wi (by omega))) rfl rfl ?_
   refine ry (y_mov rfl rfl) rfl rfl ?_
   refine reg_nil ?_
   rw [vi_pair (x := sX cx dx (k + 1)) (y := sX cy dy (k + 1)) (f := sX cx dx) (g := sX cy dy) (n := k + 1) rfl rfl] at H39
   refine fn_roundJ ⟨k + 1, _, _, rfl, (H39.pick (m := [_, _, _, _]) [1, 2, 3, 4] rfl (by decide)), by omega, rfl⟩ ⟨rfl, rfl, rfl, trivial⟩ (by omega) (by repeat (first | exact kp_refl | refine kp_app rfl rfl ?_ | refine kp_cons rfl ?_)) rfl
 ·skip
  have hie : k = n := by omega
  subst hie
  refine cw_exit ?_
  refine fn_then_exit (fn_then_exit (fn_block_exit ?_))
  refine fn_next ?_
  refine cw_seq ?_
  refine cw_reg ?_
  refine ry (y_mov rfl rfl) rfl rfl ?_
  refine ry (y_asg rfl rfl) rfl rfl ?_
  refine ry (y_asg rfl rfl) rfl rfl ?_
  refine reg_nil ?_
  refine fn_next ?_
  refine cw_ret ?_
  refine fn_retn (vs := [_, _]) rfl ⟨rfl, rfl, trivial⟩ rfl ?_
  exact ⟨_, _, rfl, (H23.pick (m := [_]) [0] rfl (by decide))⟩

set_option maxRecDepth 100000 in
set_option maxHeartbeats 1000000 in
theorem zRow1 (cx cy bx yy dx dy : Int) (n : Nat) (mu px py qx qy : Int) (w : World) (hsx : Str cx dx n bx) (hsy : Str cy dy n yy) (d : OkD dx dy) (hn1 : 1 ≤ n) (hn2 : n ≤ 2000) (hw : OfP dx dy mu px py qx qy n) (hc : 0 ≤ cx ∧ cx < 1024 ∧ 0 ≤ cy ∧ cy < 1024) (hb : 0 ≤ bx ∧ bx < 1024 ∧ 0 ≤ yy ∧ yy < 1024) (hM : mu = n ∧ px + qx = dx ∧ py + qy = dy) :
    Ret Tryd.prog 58 [.agg #[.int .i64 cx, .int .i64 cy], .agg #[.int .i64 bx, .int .i64 yy]] w (fun z w' => ∃ A c, z = .tuple #[.slice A (n + 1) c, .int .i64 0] ∧ HS w w' [.row A (n + 1) c (vi .i64 (pr (sX cx dx) (sX cy dy) (n + 1))) 24 2]) := by
 have hbd := ofP_bd hw d
 have hM1 := hM.1
 have d1 := d.x1
 have d2 := d.x2
 have d3 := d.y1
 have d4 := d.y2
 refine ret_enter Tryd.func58 rfl rfl rfl ?_
 have H0 := HS.start w
 refine cw_seq ?_
 refine cw_reg ?_
 refine reg_op (op_box (cs := [.int _ _, .int _ _]) H0 rfl rfl rfl) rfl rfl ?_
 rintro _ w2 ⟨b1, rfl, H3⟩
 refine reg_op (op_box (cs := [.int _ _, .int _ _]) H3 rfl rfl rfl) rfl rfl ?_
 rintro _ w5 ⟨b4, rfl, H6⟩
 refine ry (y_asg rfl rfl) rfl rfl ?_
 refine ry (y_asg rfl rfl) rfl rfl ?_
 refine reg_nil ?_
 refine fn_next ?_
 refine cw_seq ?_
 refine cw_reg ?_
 refine ry (y_ldb (i := 1) (cs := [_, _]) H6 rfl rfl kfsees1_6 rfl rfl) rfl rfl ?_
 refine ry (y_ldb (i := 0) (cs := [_, _]) H6 rfl rfl kfsees1_6 rfl rfl) rfl rfl ?_
 refine reg_op (op_call (zLen cx cy bx yy dx dy n mu px py qx qy _ hsx hsy d hn1 hn2 hw hc hb) rfl kfsees1_13 ⟨rfl, rfl, trivial⟩) rfl rfl ?_
 rintro _ w8 ⟨rfl, e7⟩
 have H9 := H6.ext e7
 refine ry (y_mov rfl rfl) rfl rfl ?_
 refine ry (y_ext rfl rfl rfl) rfl rfl ?_
 refine ry (y_ext rfl rfl rfl) rfl rfl ?_
 refine ry (y_asg rfl rfl) rfl rfl ?_
 refine ry (y_asg rfl rfl) rfl rfl ?_
 refine reg_nil ?_
 refine fn_next ?_
 refine cw_seq ?_
 refine cw_seq ?_
 refine cw_reg ?_
 refine ry (y_mov rfl rfl) rfl rfl ?_
 refine ry (y_neq rfl rfl rfl) rfl rfl ?_
 refine reg_nil ?_
 refine fn_next ?_
 refine cw_condf rfl ?_
 refine cw_skip ?_
 refine fn_next ?_
 refine cw_seq ?_
 refine cw_reg ?_
 refine ry (y_ldb (i := 1) (cs := [_, _]) H9 rfl rfl kfsees1_6 rfl rfl) rfl rfl ?_
 refine ry (y_ldb (i := 0) (cs := [_, _]) H9 rfl rfl kfsees1_6 rfl rfl) rfl rfl ?_
 refine reg_op (op_call (zOf cx cy bx yy dx dy n mu px py qx qy _ hsx hsy d hn1 hn2 hw hc hb) rfl kfsees1_12 ⟨rfl, rfl, trivial⟩) rfl rfl ?_
 rintro _ w11 ⟨rfl, e10⟩
 have H12 := H9.ext e10
 refine reg_op (op_alloc H12 rfl kfsees1_7) rfl rfl ?_
 rintro _ w14 ⟨b13, rfl, H15⟩
 refine reg_op (op_st (i := 0) (vs := [.int _ _, .int _ _, .int _ _, .int _ _, .int _ _, .int _ _]) H15 rfl rfl rfl rfl rfl kfsees1_9 rfl rfl rfl) rfl rfl ?_
 rintro _ w16 H17
 refine reg_nil ?_
 refine fn_next ?_
 refine cw_seq ?_
 refine cw_reg ?_
 refine ry (y_ldb (i := 2) (cs := [_, _]) H17 rfl rfl kfsees1_6 rfl rfl) rfl rfl ?_
 refine reg_op (op_lit (parts := [(0, _)]) (vs := [(0, _)]) (cs := [.int _ _, .int _ _]) H17 rfl Tryd.underlying72 kfsees1_14 rfl ⟨rfl, trivial⟩ rfl rfl) rfl rfl ?_
 rintro _ w19 ⟨b18, rfl, H20⟩
 have H21 := H20.asrow (m := 1) (size := 2) rfl (by decide)
 refine ry (y_asg rfl rfl) rfl rfl ?_
 refine reg_nil ?_
 refine fn_next ?_
 refine cw_seq ?_
 refine cw_reg ?_
 refine ry (y_mov rfl rfl) rfl rfl ?_
 refine ry (y_asg rfl rfl) rfl rfl ?_
 refine reg_nil ?_
 refine fn_next ?_
 refine cw_seq ?_
 refine cw_seq ?_
 refine cw_reg ?_
 refine ry (y_mov rfl rfl) rfl rfl ?_
 refine ry (y_mov rfl rfl) rfl rfl ?_
 refine reg_nil ?_
 refine fn_next ?_
 refine cw_block ?_
 rw [← sX0 cx dx, ← sX0 cy dy] at H21
 refine cw_loopJ [9, 10, 27, 28, 29, 30, 31, 32, 33, 34, 35, 36, 37, 38, 39, 40, 41, 42, 43, 44, 45, 46, 47, 48, 49, 50, 51, 52, 53, 54] (fun M wl ml => ∃ (k : Nat) (A1 : Option Addr) (c1 : Nat), M = [(27, .int .i64 (k : Int)), (10, .int .i64 (n : Int)), (9, .slice A1 (k + 1) c1)] ∧ HS w wl [Ob.row A1 (k + 1) c1 (vi .i64 (pr (sX cx dx) (sX cy dy) (k + 1))) 24 2, Ob.blk b13 [.int .i64 (n : Int), .int .i64 mu, .int .i64 px, .int .i64 py, .int .i64 qx, .int .i64 qy] 122, Ob.blk b4 [.int .i64 bx, .int .i64 yy] 24, Ob.blk b1 [.int .i64 (sX cx dx k), .int .i64 (sX cy dy k)] 24] ∧ (k ≤ n) ∧ ml = n - k) ⟨0, _, _, rfl, H21, Nat.zero_le _, rfl⟩ ⟨rfl, rfl, rfl, trivial⟩ ?_
 rintro M w22 m24 ⟨k, A1, c1, rfl, H23, hp0, rfl⟩
 have hsk := sX_bd hsx hsy hp0 hc hb
 refine cw_seq ?_
 refine cw_reg ?_
 refine ry (y_lss rfl rfl rfl) rfl rfl ?_
 refine reg_nil ?_
 refine fn_next ?_
 refine cw_seq ?_
 refine cw_condd rfl (fun h25 => ?_) (fun h25 => ?_)
 ·skip
  refine cw_skip ?_
  refine fn_next ?_
  refine cw_seq ?_
  refine cw_block ?_
  refine cw_seq ?_
  refine cw_reg ?_
  refine ry (y_ldb (i := 3) (cs := [_, _]) H23 rfl rfl kfsees1_6 rfl rfl) rfl rfl ?_
  refine ry (y_fa rfl rfl kfsees1_15 rfl) rfl rfl ?_
  refine ry (y_lda (cs := [_, _]) rfl rfl kfsees1_6 rfl (fun j v hv => H23.cell (i := 1) rfl (lst_part (a := 2) (m := 2) hv))) rfl rfl ?_
  refine reg_op (op_call (zPlus1 (sX cx dx k) (sX cy dy k) px py _ (by omega) (by omega) (by omega) (by omega)) rfl kfsees1_16 ⟨rfl, rfl, rfl, trivial⟩) rfl rfl ?_
  rintro _ w27 ⟨rfl, e26⟩
  have H28 := H23.ext e26
  refine reg_op (op_st (i := 3) (vs := [.int _ _, .int _ _]) H28 rfl rfl rfl rfl rfl kfsees1_5 rfl rfl rfl) rfl rfl ?_
  rintro _ w29 H30
  refine reg_nil ?_
  refine fn_next ?_
  refine cw_seq ?_
  refine cw_seq ?_
  refine cw_reg ?_
  refine ry (y_mov rfl rfl) rfl rfl ?_
  refine ry (y_fa rfl rfl kfsees1_17 rfl) rfl rfl ?_
  refine ry (y_ld rfl rfl kfsees1_2 (H30.cell (i := 1) rfl rfl)) rfl rfl ?_
  refine ry (y_mul rfl rfl rfl (wi (by omega))) rfl rfl ?_
  refine ry (y_add rfl rfl rfl (show _ = 3 * (n : Int) from (wi (by omega)).trans (by omega))) rfl rfl ?_
  refine ry (y_asg rfl rfl) rfl rfl ?_
  refine reg_nil ?_
  refine fn_next ?_
  refine cw_seq ?_
  refine cw_reg ?_
  refine ry (y_mov rfl rfl) rfl rfl ?_
  refine ry (y_mov rfl rfl) rfl rfl ?_
  refine ry (y_mul rfl rfl rfl (wi (by omega))) rfl rfl ?_
  refine ry (y_geq rfl rfl rfl) rfl rfl ?_
  refine reg_nil ?_
  refine fn_next ?_
  refine cw_condd rfl (fun h31 => ?_) (fun h31 => ?_)
  ·skip
   refine cw_seq ?_
   refine cw_reg ?_
   refine ry (y_mov rfl rfl) rfl rfl ?_
   refine ry (y_mov rfl rfl) rfl rfl ?_
   refine ry (y_mul rfl rfl rfl (wi (by omega))) rfl rfl ?_
   refine ry (y_sub rfl rfl rfl (show _ = (n : Int) from (wi (by omega)).trans (by omega))) rfl rfl ?_
   refine ry (y_asg rfl rfl) rfl rfl ?_
   refine reg_nil ?_
   refine fn_next ?_
   refine cw_reg ?_
   refine ry (y_ldb (i := 3) (cs := [_, _]) H30 rfl rfl kfsees1_6 rfl rfl) rfl rfl ?_
   refine ry (y_fa rfl rfl kfsees1_19 rfl) rfl rfl ?_
   refine ry (y_lda (cs := [_, _]) rfl rfl kfsees1_6 rfl (fun j v hv => H30.cell (i := 1) rfl (lst_part (a := 4) (m := 2) hv))) rfl rfl ?_
   refine reg_op (op_call (ret_v (v := .agg #[.int .i64 (sX cx dx (k + 1)), .int .i64 (sX cy dy (k + 1))]) (zPlus1 (sX cx dx k + px) (sX cy dy k + py) qx qy _ (by omega) (by omega) (by omega) (by omega)) (by rw [Int.add_assoc, Int.add_assoc, hM.2.1, hM.2.2, sXs, sXs])) rfl kfsees1_16 ⟨rfl, rfl, rfl, trivial⟩) rfl rfl ?_
   rintro _ w33 ⟨rfl, e32⟩
   have H34 := H30.ext e32
   refine reg_op (op_st (i := 3) (vs := [.int _ _, .int _ _]) H34 rfl rfl rfl rfl rfl kfsees1_5 rfl rfl rfl) rfl rfl ?_
   rintro _ w35 H36
   refine reg_nil ?_
   refine fn_next ?_
   refine cw_reg ?_
   refine ry (y_mov rfl rfl) rfl rfl ?_
   refine ry (y_ldb (i := 3) (cs := [_, _]) H36 rfl rfl kfsees1_6 rfl rfl) rfl rfl ?_
   refine reg_op (op_lit (parts := [(0, _)]) (vs := [(0, _)]) (cs := [.int _ _, .int _ _]) H36 rfl Tryd.underlying72 kfsees1_14 rfl ⟨rfl, trivial⟩ rfl rfl) rfl rfl ?_
   rintro _ w38 ⟨b37, rfl, H39⟩
   have H40 := H39.asrow (m := 1) (size := 2) rfl (by decide)
   refine reg_op (op_app (i := 1) H40 rfl rfl rfl rfl (H40.rd (i := 0) rfl) (rfl) (rfl) Tryd.underlying72 kfsees1_18 rfl rfl (by unfold maxLen; omega) (by omega)) rfl rfl ?_
   rintro _ w43 ⟨A41, c42, rfl, H44⟩
   refine ry (y_asg rfl rfl) rfl rfl ?_
   refine reg_nil ?_
   refine fn_block ?_
   refine fn_next ?_
   refine cw_reg ?_
   refine ry (y_add rfl rfl rfl (wi (by omega))) rfl rfl ?_
   refine ry (y_mov rfl rfl) rfl rfl ?_
   refine reg_nil ?_
   rw [vi_pair (x := sX cx dx (k + 1)) (y := sX cy dy (k + 1)) (f := sX cx dx) (g := sX cy dy) (n := k + 1) rfl rfl] at H44
   refine fn_roundJ ⟨k + 1, _, _, rfl, (H44.pick (m := [_, _, _, _]) [1, 2, 3, 4] rfl (by decide)), by omega, rfl⟩ ⟨rfl, rfl, rfl, trivial⟩ (by omega) (by repeat (first | exact kp_refl | refine kp_app rfl rfl ?_ | refine kp_cons rfl ?_)) rfl
  · exfalso; omega
 ·skip
  have hie : k = n := by omega
  subst hie
  refine cw_exit ?_
  refine fn_then_exit (fn_then_exit (fn_block_exit ?_))
  refine fn_next ?_
  refine cw_seq ?_
  refine cw_reg ?_
  refine ry (y_mov rfl rfl) rfl rfl ?_
  refine ry (y_asg rfl rfl) rfl rfl ?_
  refine ry (y_asg rfl rfl) rfl rfl ?_
  refine reg_nil ?_
  refine fn_next ?_
  refine cw_ret ?_
  refine fn_retn (vs := [_, _]) rfl ⟨rfl, rfl, trivial⟩ rfl ?_
  exact ⟨_, _, rfl, (H23.pick (m := [_]) [0] rfl (by decide))⟩

theorem zRow (cx cy bx yy dx dy : Int) (n : Nat) (w : World) (hsx : Str cx dx n bx) (hsy : Str cy dy n yy) (d : OkD dx dy) (hn1 : 1 ≤ n) (hn2 : n ≤ 2000) (hc : 0 ≤ cx ∧ cx < 1024 ∧ 0 ≤ cy ∧ cy < 1024) (hb : 0 ≤ bx ∧ bx < 1024 ∧ 0 ≤ yy ∧ yy < 1024) :
    Ret Tryd.prog 58 [.agg #[.int .i64 cx, .int .i64 cy], .agg #[.int .i64 bx, .int .i64 yy]] w (fun z w' => ∃ A c, z = .tuple #[.slice A (n + 1) c, .int .i64 0] ∧ HS w w' [.row A (n + 1) c (vi .i64 (pr (sX cx dx) (sX cy dy) (n + 1))) 24 2]) := by
  obtain ⟨mu, px, py, qx, qy, hw⟩ := ofP_ex dx dy n
  rcases ofP_two hw d with q | q
  · exact zRow0 cx cy bx yy dx dy n mu px py qx qy w hsx hsy d hn1 hn2 hw hc hb q
  · exact zRow1 cx cy bx yy dx dy n mu px py qx qy w hsx hsy d hn1 hn2 hw hc hb q

end Go.Proofs.YtgkkbeomhkggjaaDoor
