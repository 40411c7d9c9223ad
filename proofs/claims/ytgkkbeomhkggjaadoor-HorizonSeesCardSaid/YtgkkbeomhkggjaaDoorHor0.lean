/- Layer 48: the steepest in a direction. -/
import Derived.Test.YtgkkbeomhkggjaaDoorLand2
import Derived.Test.YtgkkbeomhkggjaaDoorK15
import Derived.Test.YtgkkbeomhkggjaaDoorSlope2
set_option linter.unusedVariables false
set_option linter.unusedSimpArgs false
namespace Go.Proofs.YtgkkbeomhkggjaaDoor
open Go Go.RowKit
theorem kfhor0_1 : elB Tryd.prog 43 2 = true := by kernel_rfl
theorem kfhor0_2 : aggB Tryd.prog 34 2 = true := by kernel_rfl
theorem kfhor0_3 : (Tryd.prog.info? 34).bind (fun i => i.zero.map Value.cells) = some (List.toArray [(.int .i64 0), (.int .i64 0)]) := by kernel_rfl
theorem kfhor0_4 : szB Tryd.prog 34 2 = true := by kernel_rfl
theorem kfhor0_5 : callB Tryd.prog 55 = true := by kernel_rfl
theorem kfhor0_6 : aggB Tryd.prog 24 2 = true := by kernel_rfl
theorem kfhor0_7 : callB Tryd.prog 54 = true := by kernel_rfl
theorem kfhor0_8 : fldB Tryd.prog 24 0 0 = true := by kernel_rfl
theorem kfhor0_9 : oneB Tryd.prog 2 = true := by kernel_rfl
theorem kfhor0_10 : fldB Tryd.prog 24 1 1 = true := by kernel_rfl
theorem kfhor0_11 : (Tryd.prog.info? 24).bind (fun i => i.zero.map Value.cells) = some (List.toArray [(.int .i64 0), (.int .i64 0)]) := by kernel_rfl
theorem kfhor0_12 : szB Tryd.prog 24 2 = true := by kernel_rfl
theorem kfhor0_13 : (Tryd.prog.info? 24).map (fun i => (i.size, i.zero.map Value.cells)) = some (2, some (List.toArray [(.int .i64 0), (.int .i64 0)])) := by kernel_rfl
theorem kfhor0_14 : (Tryd.prog.info? 24).map (fun i => (i.zero.map (·.cells.toList), i.size, i.bytes)) = some (some [(.int .i64 0), (.int .i64 0)], 2, 16) := by kernel_rfl
theorem kfhor0_15 : (Tryd.prog.info? 34).map (fun i => (i.size, i.zero.map Value.cells)) = some (2, some (List.toArray [(.int .i64 0), (.int .i64 0)])) := by kernel_rfl
theorem kfhor0_16 : (Tryd.prog.info? 34).map (fun i => (i.zero.map (·.cells.toList), i.size, i.bytes)) = some (some [(.int .i64 0), (.int .i64 0)], 2, 16) := by kernel_rfl
theorem kfhor0_17 : callB Tryd.prog 29 = true := by kernel_rfl
theorem kfhor0_18 : elA Tryd.prog 75 8 2 = true := by kernel_rfl
theorem kfhor0_19 : callB Tryd.prog 30 = true := by kernel_rfl
theorem kfhor0_20 : callB Tryd.prog 31 = true := by kernel_rfl
theorem kfhor0_21 : elB Tryd.prog 72 2 = true := by kernel_rfl
theorem kfhor0_22 : callB Tryd.prog 14 = true := by kernel_rfl
/-- pairs, laid flat -/
def pr (f g : Nat → Int) : Nat → List Int
  | 0 => []
  | n + 1 => pr f g n ++ [f n, g n]
theorem pr_len (f g : Nat → Int) : ∀ n, (pr f g n).length = n * 2
  | 0 => rfl
  | n + 1 => by rw [pr, List.length_append, pr_len f g n]; simp; omega
theorem nth_appL {A B : List Int} {i : Nat} (h : i < A.length) : nth (A ++ B) i = nth A i := by
  unfold nth; simp [List.getD, List.getElem?_append_left h]
theorem nth_appR {A B : List Int} {i j : Nat} (h : i = A.length + j) : nth (A ++ B) i = nth B j := by
  subst h; unfold nth; simp [List.getD, List.getElem?_append_right]
theorem pr_nth {f g : Nat → Int} {j : Nat} : ∀ {n}, j < n → nth (pr f g n) (j * 2) = f j ∧ nth (pr f g n) (j * 2 + 1) = g j
  | n + 1, h => by
    rw [pr]
    have hl := pr_len f g n
    by_cases e : j = n
    · subst e
      rw [nth_appR (j := 0) (by omega), nth_appR (j := 1) (by omega)]
      exact ⟨rfl, rfl⟩
    · rw [nth_appL (by omega), nth_appL (by omega)]
      exact pr_nth (by omega)
theorem pr_at {f g : Nat → Int} {j n : Nat} (h : j < n) : ∀ q v, ([.int .i64 (f j), .int .i64 (g j)] : List Value)[q]? = some v → (vi .i64 (pr f g n))[j * 2 + q]? = some v
  | 0, v, e => by rw [Nat.add_zero, vi_get (by rw [pr_len]; omega), (pr_nth h).1]; exact e
  | 1, v, e => by rw [vi_get (by rw [pr_len]; omega), (pr_nth h).2]; exact e
  | q + 2, v, e => by simp at e
theorem pr_at0 {f g : Nat → Int} {j n : Nat} (h : j < n) : (vi .i64 (pr f g n))[j * 2]? = some (.int .i64 (f j)) := pr_at h 0 _ rfl
theorem vi_pair {f g : Nat → Int} {n : Nat} {x y : Int} (hx : x = f n) (hy : y = g n) : vi .i64 (pr f g n) ++ [.int .i64 x, .int .i64 y] = vi .i64 (pr f g (n + 1)) := by
  subst hx; subst hy; rw [pr, vi_app]; rfl
/-- how far a line goes on -/
def pfx (p : Nat → Bool) : Nat → Nat → Nat
  | 0, j => j
  | f + 1, j => if p (j + 1) then pfx p f (j + 1) else j
theorem pfx_spec {p : Nat → Bool} : ∀ {f j : Nat}, (∀ i, 1 ≤ i → i ≤ j → p i = true) → (∃ i, j < i ∧ i ≤ j + f ∧ p i = false) →
    (∀ i, 1 ≤ i → i ≤ pfx p f j → p i = true) ∧ p (pfx p f j + 1) = false ∧ pfx p f j ≤ j + f
  | 0, j, _, ⟨i, h1, h2, _⟩ => by omega
  | f + 1, j, hp, ⟨i, h1, h2, h3⟩ => by
    rw [pfx]
    by_cases e : p (j + 1) = true
    · rw [if_pos e]
      have := pfx_spec (p := p) (f := f) (j := j + 1) (fun q q1 q2 => by
        by_cases q3 : q = j + 1
        · rw [q3]; exact e
        · exact hp q q1 (by omega)) (by
          rcases Nat.lt_or_ge (j + 1) i with q | q
          · exact ⟨i, q, by omega, h3⟩
          · have : i = j + 1 := by omega
            rw [this, e] at h3; cases h3)
      exact ⟨this.1, this.2.1, by omega⟩
    · rw [if_neg e]
      exact ⟨hp, by simpa using e, by omega⟩
def inB (a h : Nat) (x y : Int) : Bool := decide (0 ≤ x ∧ x < a ∧ 0 ≤ y ∧ y < h)
def sX (c d : Int) (k : Nat) : Int := c + k * d
theorem sX0 (c d : Int) : sX c d 0 = c := by unfold sX; simp
theorem sXs (c d : Int) (k : Nat) : sX c d k + d = sX c d (k + 1) := by unfold sX; rw [Int.natCast_add, Int.add_mul]; omega
/-- how many cells lie ahead -/
def ms (a h : Nat) (cx cy dx dy : Int) : Nat := pfx (fun k => inB a h (sX cx dx k) (sX cy dy k)) 1025 0
structure OkD (dx dy : Int) : Prop where
  x1 : -1 ≤ dx
  x2 : dx ≤ 1
  y1 : -1 ≤ dy
  y2 : dy ≤ 1
  n : ¬ (dx = 0 ∧ dy = 0)
theorem ms_spec {a h : Nat} {cx cy dx dy : Int} (s : SzG a h) (d : OkD dx dy) (hc : inB a h cx cy = true) :
    (∀ i, i ≤ ms a h cx cy dx dy → inB a h (sX cx dx i) (sX cy dy i) = true) ∧ inB a h (sX cx dx (ms a h cx cy dx dy + 1)) (sX cy dy (ms a h cx cy dx dy + 1)) = false ∧ ms a h cx cy dx dy ≤ 1025 := by
  obtain ⟨s1, s2, s3, s4⟩ := s
  have hc' := of_decide_eq_true hc
  have := pfx_spec (p := fun k => inB a h (sX cx dx k) (sX cy dy k)) (f := 1025) (j := 0) (fun i h1 h2 => by omega) ⟨1025, by omega, by omega, by
    have hd := d.n
    have q1 := d.x1; have q2 := d.x2; have q3 := d.y1; have q4 := d.y2
    refine decide_eq_false fun q => ?_
    unfold sX at q
    omega⟩
  refine ⟨fun i hi => ?_, this.2.1, by have := this.2.2; unfold ms; omega⟩
  by_cases e : i = 0
  · subst e; rw [sX0, sX0]; exact hc
  · exact this.1 i (by omega) hi
theorem inB_bd {a h : Nat} {x y : Int} (hi : inB a h x y = true) : 0 ≤ x ∧ x < a ∧ 0 ≤ y ∧ y < h := of_decide_eq_true hi
theorem inB_w {a h : Nat} {x y : Int} (s : SzG a h) : inB a h x y = true ↔ withinC x y x y a h = 0 := by
  constructor
  · exact fun q => within_inG s (inB_bd q)
  · intro q
    obtain ⟨p0, q0, p1, q1, e0, e1, e2, e3, u1, u2, u3, u4⟩ := within_natG s q
    exact decide_eq_true (by omega)
theorem within_4 {a h : Nat} {x y : Int} (s : SzG a h) (hw : ¬ withinC x y x y a h = 0) : withinC x y x y a h = 4 := within_outG s fun q => hw (within_inG s q)
theorem nth_B32 {V : List Int} (hb : AllB V) (i : Nat) : B32 (nth V i) := by
  unfold nth
  by_cases e : i < V.length
  · rw [List.getD_eq_getElem?_getD, List.getElem?_eq_getElem e]; exact hb _ (List.getElem_mem e)
  · rw [List.getD_eq_getElem?_getD, List.getElem?_eq_none (by omega)]; exact ⟨by decide, by decide⟩
theorem gatV_B32 {V : List Int} {a h : Nat} {x y : Int} (hb : AllB V) : -2147483648 ≤ gatV V a h x y ∧ gatV V a h x y ≤ 2147483647 := by
  unfold gatV
  split
  · exact nth_B32 hb _
  · exact ⟨by decide, by decide⟩
/-- the rise of the k-th cell ahead -/
def hU (V : List Int) (a h : Nat) (cx cy dx dy e : Int) (k : Nat) : Int := gatV V a h (sX cx dx (k + 1)) (sX cy dy (k + 1)) - e
def hO (k : Nat) : Int := (k : Int) + 1
def bst (U : Nat → Int) : Nat → Nat
  | 0 => 0
  | k + 1 => if U (bst U k) * ((k : Int) + 1) < U k * ((bst U k : Int) + 1) then k else bst U k
theorem bst_le (U : Nat → Int) : ∀ k, bst U (k + 1) ≤ k
  | 0 => by rw [bst]; split <;> simp [bst]
  | k + 1 => by rw [bst]; split; exact Nat.le_refl _; have := bst_le U k; omega
theorem bst_lt {U : Nat → Int} {k : Nat} (h : 0 < k) : bst U k < k := by
  obtain ⟨q, rfl⟩ : ∃ q, k = q + 1 := ⟨k - 1, by omega⟩
  have := bst_le U q; omega
theorem cmpI_pos {x y : Int} : cmpI x y > 0 ↔ y < x := by unfold cmpI; split; omega; split <;> omega
def Bd60 (U : Nat → Int) (n : Nat) : Prop := ∀ k, k < n → -1000000000000 ≤ U k ∧ U k ≤ 1000000000000
theorem hU_bd {V : List Int} {a h : Nat} {cx cy dx dy e : Int} (hb : AllB V) (he : -10000000000 ≤ e ∧ e ≤ 10000000000) (n : Nat) : Bd60 (hU V a h cx cy dx dy e) n := fun k _ => by
  have := gatV_B32 (a := a) (h := h) (x := sX cx dx (k + 1)) (y := sX cy dy (k + 1)) hb
  unfold hU; omega
def hC (a h : Nat) (cx cy high : Int) : Int := if withinC cx cy cx cy a h = 0 then (if high < 0 ∨ high > 1048576 then 8 else 0) else 4
/-- the eight directions -/
def dX (d : Nat) : Int := nth [0, 1, 1, 1, 0, -1, -1, -1] d
def dY (d : Nat) : Int := nth [-1, -1, 0, 1, 1, 1, 0, -1] d
theorem okD : ∀ {d : Nat}, d < 8 → OkD (dX d) (dY d)
  | 0, _ | 1, _ | 2, _ | 3, _ | 4, _ | 5, _ | 6, _ | 7, _ => ⟨by decide, by decide, by decide, by decide, by decide⟩
  | d + 8, h => by omega
def hX (c d : Int) (k : Nat) : Int := sX c d (k + 1)
theorem ms_stop {a h : Nat} {cx cy dx dy : Int} (s : SzG a h) (d : OkD dx dy) (hc : inB a h cx cy = true) {i : Nat} (hi : i ≤ ms a h cx cy dx dy) (q : ¬ withinC (sX cx dx (i + 1)) (sX cy dy (i + 1)) (sX cx dx (i + 1)) (sX cy dy (i + 1)) a h = 0) : i = ms a h cx cy dx dy := by
  rcases Nat.lt_or_ge i (ms a h cx cy dx dy) with e | e
  · exact absurd ((inB_w s).1 ((ms_spec s d hc).1 (i + 1) e)) q
  · omega
theorem ms_go {a h : Nat} {cx cy dx dy : Int} (s : SzG a h) (d : OkD dx dy) (hc : inB a h cx cy = true) {i : Nat} (hi : i ≤ ms a h cx cy dx dy) (q : withinC (sX cx dx (i + 1)) (sX cy dy (i + 1)) (sX cx dx (i + 1)) (sX cy dy (i + 1)) a h = 0) : i < ms a h cx cy dx dy := by
  rcases Nat.lt_or_ge i (ms a h cx cy dx dy) with e | e
  · exact e
  · have e2 : i = ms a h cx cy dx dy := by omega
    have := (ms_spec s d hc).2.1
    rw [← e2] at this
    rw [(inB_w s).2 q] at this
    cases this
def hE (a h : Nat) (cx cy high dir : Int) : Int := if hC a h cx cy high = 0 then (if dir < 0 ∨ dir ≥ 8 then 11 else 0) else hC a h cx cy high
def hV (q : Int × Int × Int × Int × Bool) : Value := .tuple #[.agg #[.int .i64 q.1, .int .i64 q.2.1], .agg #[.int .i64 q.2.2.1, .int .i64 q.2.2.2.1], .bool q.2.2.2.2, .int .i64 0]
/-- the answer -/
def hS (V : List Int) (a h : Nat) (cx cy high : Int) (d : Nat) : Int × Int × Int × Int × Bool :=
  let m := ms a h cx cy (dX d) (dY d)
  let b := bst (hU V a h cx cy (dX d) (dY d) (gatV V a h cx cy + high)) m
  if m = 0 then (0, 0, 0, 0, false) else (hU V a h cx cy (dX d) (dY d) (gatV V a h cx cy + high) b, (b : Int) + 1, sX cx (dX d) (b + 1), sX cy (dY d) (b + 1), true)

set_option maxRecDepth 100000 in
theorem sStp0 (A : Option Addr) (n cap : Nat) (w : World) (hz : n = 0) :
    Ret Tryd.prog 31 [.slice A n cap] w (fun z w' => z = .tuple #[.int .i64 0, .int .i64 15] ∧ Below w.heap.size w w') := by
 refine ret_enter Tryd.func31 rfl rfl rfl ?_
 have H0 := HS.start w
 refine cw_seq ?_
 refine cw_reg ?_
 refine ry (y_asg rfl rfl) rfl rfl ?_
 refine ry (y_asg rfl rfl) rfl rfl ?_
 refine reg_nil ?_
 refine fn_next ?_
 refine cw_seq ?_
 refine cw_seq ?_
 refine cw_reg ?_
 refine ry (y_mov rfl rfl) rfl rfl ?_
 refine ry (y_len rfl Tryd.underlying43 rfl) rfl rfl ?_
 refine ry (y_eql rfl rfl rfl) rfl rfl ?_
 refine reg_nil ?_
 refine fn_next ?_
 refine cw_condd rfl (fun h1 => ?_) (fun h1 => ?_)
 ·skip
  refine cw_seq ?_
  refine cw_reg ?_
  refine ry (y_asg rfl rfl) rfl rfl ?_
  refine ry (y_asg rfl rfl) rfl rfl ?_
  refine reg_nil ?_
  refine fn_next ?_
  refine cw_ret ?_
  refine fn_then_ret ?_
  refine fn_retn (vs := [_, _]) rfl ⟨rfl, rfl, trivial⟩ rfl ?_
  exact ⟨rfl, H0.base⟩
 · exfalso; omega

set_option maxRecDepth 100000 in
theorem sStp (A : Option Addr) (n cap : Nat) (U : Nat → Int) (w : World) (hr : Rd w A (vi .i64 (pr U hO n))) (hn0 : 0 < n) (hn2 : n ≤ 2000) (hU : Bd60 U n) :
    Ret Tryd.prog 31 [.slice A n cap] w (fun z w' => z = .tuple #[.int .i64 ((bst U n : Nat) : Int), .int .i64 0] ∧ Below w.heap.size w w') := by
 refine ret_enter Tryd.func31 rfl rfl rfl ?_
 have H0 := HS.start w
 refine cw_seq ?_
 refine cw_reg ?_
 refine ry (y_asg rfl rfl) rfl rfl ?_
 refine ry (y_asg rfl rfl) rfl rfl ?_
 refine reg_nil ?_
 refine fn_next ?_
 refine cw_seq ?_
 refine cw_seq ?_
 refine cw_reg ?_
 refine ry (y_mov rfl rfl) rfl rfl ?_
 refine ry (y_len rfl Tryd.underlying43 rfl) rfl rfl ?_
 refine ry (y_eql rfl rfl rfl) rfl rfl ?_
 refine reg_nil ?_
 refine fn_next ?_
 refine cw_condd rfl (fun h1 => ?_) (fun h1 => ?_)
 · exfalso; omega
 ·skip
  refine cw_skip ?_
  refine fn_next ?_
  refine cw_seq ?_
  refine cw_reg ?_
  refine ry (y_asg rfl rfl) rfl rfl ?_
  refine reg_nil ?_
  refine fn_next ?_
  refine cw_seq ?_
  refine cw_seq ?_
  refine cw_reg ?_
  refine ry (y_mov rfl rfl) rfl rfl ?_
  refine ry (y_len rfl Tryd.underlying43 rfl) rfl rfl ?_
  refine ry (y_mov rfl rfl) rfl rfl ?_
  refine reg_nil ?_
  refine fn_next ?_
  refine cw_block ?_
  refine cw_loopJ [2, 3, 4, 5, 6, 7, 8, 14, 15, 16, 17, 18, 19, 20, 21, 22, 23, 24, 25, 26, 27, 28, 29, 30, 31, 32, 33, 34] (fun M wl ml => ∃ (i : Nat), M = [(14, .int .i64 (i : Int)), (4, .int .i64 ((bst U i : Nat) : Int))] ∧ HS w wl [] ∧ (i ≤ n) ∧ ml = n - i) ⟨0, rfl, H0, Nat.zero_le _, rfl⟩ ⟨rfl, rfl, trivial⟩ ?_
  rintro M w2 m4 ⟨i, rfl, H3, hp0, rfl⟩
  refine cw_seq ?_
  refine cw_reg ?_
  refine ry (y_lss rfl rfl rfl) rfl rfl ?_
  refine reg_nil ?_
  refine fn_next ?_
  refine cw_seq ?_
  refine cw_condd rfl (fun h5 => ?_) (fun h5 => ?_)
  ·skip
   have hi : i < n := by omega
   have hbl : bst U i < n := by rcases Nat.eq_zero_or_pos i with e | e; (subst e; exact hi); (have := bst_lt (U := U) e; omega)
   have u1 := hU i hi
   have u2 := hU _ hbl
   have g0 := pr_at0 (f := U) (g := hO) hi
   have g1 := pr_at (f := U) (g := hO) hi
   have g2 := pr_at0 (f := U) (g := hO) hbl
   have g3 := pr_at (f := U) (g := hO) hbl
   refine cw_skip ?_
   refine fn_next ?_
   refine cw_seq ?_
   refine cw_block ?_
   refine cw_seq ?_
   refine cw_reg ?_
   refine ry (y_mov rfl rfl) rfl rfl ?_
   refine ry (y_iar (hr.below H3.base) rfl rfl rfl kfhor0_1 (rfl) (by omega) (rfl) (g0)) rfl rfl ?_
   refine ry (y_ldra (cs := [_, _]) (hr.below H3.base) rfl rfl kfhor0_2 rfl (by decide) (g1)) rfl rfl ?_
   refine reg_op (op_alloc H3 rfl kfhor0_3) rfl rfl ?_
   rintro _ w7 ⟨b6, rfl, H8⟩
   refine ry (y_asg rfl rfl) rfl rfl ?_
   refine reg_op (op_st (i := 0) (vs := [.int _ _, .int _ _]) H8 rfl rfl rfl rfl rfl kfhor0_4 rfl rfl rfl) rfl rfl ?_
   rintro _ w9 H10
   refine reg_nil ?_
   refine fn_next ?_
   refine cw_seq ?_
   refine cw_draw H10 [0, 1, 2, 3, 4, 5, 6, 7, 8, 9, 10] [] (fun X HX => HX) (by kernel_rfl) (by kernel_rfl) (by rfl) ?_
   simp only [pick, List.getElem?_cons_succ, List.getElem?_cons_zero]
   refine hk_y (fun Y HY => y_ldb (i := 0) (cs := [_, _]) HY rfl rfl kfhor0_2 rfl rfl) rfl rfl ?_
   refine hk_y (fun Y HY => y_mov rfl rfl) rfl rfl ?_
   refine hk_y (fun Y HY => y_mov rfl rfl) rfl rfl ?_
   refine hk_y (fun Y HY => y_iar (hr.below HY.base) rfl rfl rfl kfhor0_1 (rfl) (by omega) (rfl) (g2)) rfl rfl ?_
   refine hk_y (fun Y HY => y_ldra (cs := [_, _]) (hr.below HY.base) rfl rfl kfhor0_2 rfl (by decide) (g3)) rfl rfl ?_
   refine hk_q (qy_call (fun Y HY => ret_elder (Cmp_ok (U i) (hO i) (U (bst U i)) (hO (bst U i)) _ (by omega) (by omega) (by unfold hO; omega) (by unfold hO; omega) (by omega) (by omega) (by unfold hO; omega) (by unfold hO; omega) (by unfold hO; omega) (by unfold hO; omega))) rfl kfhor0_5 ⟨rfl, rfl, trivial⟩) rfl rfl ?_
   refine hk_y (fun Y HY => y_mov rfl rfl) rfl rfl ?_
   refine hk_y (fun Y HY => y_ext rfl rfl rfl) rfl rfl ?_
   refine hk_y (fun Y HY => y_ext rfl rfl rfl) rfl rfl ?_
   refine hk_y (fun Y HY => y_asg rfl rfl) rfl rfl ?_
   refine hk_y (fun Y HY => y_asg rfl rfl) rfl rfl ?_
   refine hk_nil ?_
   intro w11 H12
   refine tv_nil ?_
   refine fn_next ?_
   refine cw_seq ?_
   refine cw_seq ?_
   refine cw_reg ?_
   refine ry (y_mov rfl rfl) rfl rfl ?_
   refine ry (y_neq rfl rfl rfl) rfl rfl ?_
   refine reg_nil ?_
   refine fn_next ?_
   refine cw_condf rfl ?_
   refine cw_skip ?_
   refine fn_next ?_
   refine cw_seq ?_
   refine cw_reg ?_
   refine ry (y_mov rfl rfl) rfl rfl ?_
   refine ry (y_gtr rfl rfl rfl) rfl rfl ?_
   refine reg_nil ?_
   refine fn_next ?_
   refine cw_condd rfl (fun h13 => ?_) (fun h13 => ?_)
   ·skip
    have hm := (cmpI_pos.1 h13)
    unfold hO at hm
    refine cw_reg ?_
    refine ry (y_mov rfl rfl) rfl rfl ?_
    refine ry (y_asg rfl rfl) rfl rfl ?_
    refine reg_nil ?_
    refine fn_block ?_
    refine fn_next ?_
    refine cw_reg ?_
    refine ry (y_add rfl rfl rfl (wi (by omega))) rfl rfl ?_
    refine ry (y_mov rfl rfl) rfl rfl ?_
    refine reg_nil ?_
    refine fn_roundJ ⟨i + 1, rfl, (H12.pick (m := []) [] rfl (by decide)), by omega, rfl⟩ ⟨rfl, by first | (rw [bst, if_pos hm]; rfl) | (rw [bst, if_neg hm]; rfl), trivial⟩ (by omega) (by repeat (first | exact kp_refl | refine kp_app rfl rfl ?_ | refine kp_cons rfl ?_)) rfl
   ·skip
    have hm := fun q => h13 (cmpI_pos.2 q)
    unfold hO at hm
    refine cw_skip ?_
    refine fn_block ?_
    refine fn_next ?_
    refine cw_reg ?_
    refine ry (y_add rfl rfl rfl (wi (by omega))) rfl rfl ?_
    refine ry (y_mov rfl rfl) rfl rfl ?_
    refine reg_nil ?_
    refine fn_roundJ ⟨i + 1, rfl, (H12.pick (m := []) [] rfl (by decide)), by omega, rfl⟩ ⟨rfl, by first | (rw [bst, if_pos hm]; rfl) | (rw [bst, if_neg hm]; rfl), trivial⟩ (by omega) (by repeat (first | exact kp_refl | refine kp_app rfl rfl ?_ | refine kp_cons rfl ?_)) rfl
  ·skip
   have hie : i = n := by omega
   subst hie
   refine cw_exit ?_
   refine fn_then_exit (fn_then_exit (fn_block_exit ?_))
   refine fn_next ?_
   refine cw_seq ?_
   refine cw_reg ?_
   refine ry (y_mov rfl rfl) rfl rfl ?_
   refine ry (y_asg rfl rfl) rfl rfl ?_
   refine ry (y_asg rfl rfl) rfl rfl ?_
   refine reg_nil ?_
   refine fn_next ?_
   refine cw_ret ?_
   refine fn_retn (vs := [_, _]) rfl ⟨rfl, rfl, trivial⟩ rfl ?_
   exact ⟨rfl, H3.base⟩

set_option maxRecDepth 100000 in
theorem hChk_no (g a h : Nat) (V : List Int) (cx cy high : Int) (w : World) (R : GRd w g a h V) (hc : ¬ hC a h cx cy high = 0) :
    Ret Tryd.prog 29 [.pointer (some ⟨g, 0, none⟩), .agg #[.int .i64 cx, .int .i64 cy], .int .i64 high] w (fun z w' => z = .tuple #[.int .i64 0, .int .i64 (hC a h cx cy high)] ∧ Below w.heap.size w w') := by
 have hgv := R.gv
 have hgs := hgv.sz
 refine ret_enter Tryd.func29 rfl rfl rfl ?_
 have H0 := HS.start w
 refine cw_seq ?_
 refine cw_reg ?_
 refine reg_op (op_box (cs := [.int _ _, .int _ _]) H0 rfl rfl rfl) rfl rfl ?_
 rintro _ w2 ⟨b1, rfl, H3⟩
 refine ry (y_asg rfl rfl) rfl rfl ?_
 refine ry (y_asg rfl rfl) rfl rfl ?_
 refine reg_nil ?_
 refine fn_next ?_
 refine cw_seq ?_
 refine cw_reg ?_
 refine ry (y_mov rfl rfl) rfl rfl ?_
 refine ry (y_ldb (i := 0) (cs := [_, _]) H3 rfl rfl kfhor0_6 rfl rfl) rfl rfl ?_
 refine reg_op (op_call (gAt g a h (V) cx cy _ (R.below H3.base)) rfl kfhor0_7 ⟨rfl, rfl, trivial⟩) rfl rfl ?_
 rintro _ w5 ⟨rfl, e4⟩
 have H6 := H3.ext e4
 refine ry (y_mov rfl rfl) rfl rfl ?_
 refine ry (y_ext rfl rfl rfl) rfl rfl ?_
 refine ry (y_ext rfl rfl rfl) rfl rfl ?_
 refine ry (y_asg rfl rfl) rfl rfl ?_
 refine ry (y_asg rfl rfl) rfl rfl ?_
 refine reg_nil ?_
 refine fn_next ?_
 refine cw_seq ?_
 refine cw_block ?_
 refine cw_seq ?_
 refine cw_reg ?_
 refine ry (y_mov rfl rfl) rfl rfl ?_
 refine ry (y_neq rfl rfl rfl) rfl rfl ?_
 refine ry (y_asg rfl rfl) rfl rfl ?_
 refine reg_nil ?_
 refine fn_next ?_
 refine cw_condd rfl (fun h7 => ?_) (fun h7 => ?_)
 ·skip
  refine cw_seq ?_
  refine cw_reg ?_
  refine ry (y_mov rfl rfl) rfl rfl ?_
  refine ry (y_asg rfl rfl) rfl rfl ?_
  refine ry (y_asg rfl rfl) rfl rfl ?_
  refine reg_nil ?_
  refine fn_next ?_
  refine cw_ret ?_
  refine fn_block_ret (fn_then_ret ?_)
  refine fn_retn (vs := [_, _]) rfl ⟨rfl, rfl, trivial⟩ rfl ?_
  unfold hC
  rw [if_neg (by assumption), within_4 hgs (by assumption)]
  exact ⟨rfl, H6.base⟩
 ·skip
  refine cw_seq ?_
  refine cw_reg ?_
  refine ry (y_mov rfl rfl) rfl rfl ?_
  refine ry (y_lss rfl rfl rfl) rfl rfl ?_
  refine ry (y_mov rfl rfl) rfl rfl ?_
  refine rg_splitd (d := 23) rfl (fun h8 => ?_) (fun h8 => ?_)
  ·skip
   refine rg_off rfl rfl rfl rfl rfl ?_
   refine rg_off rfl rfl rfl rfl rfl ?_
   refine ry (y_pick rfl rfl rfl) rfl rfl ?_
   refine ry (y_asg rfl rfl) rfl rfl ?_
   refine reg_nil ?_
   refine fn_next ?_
   refine cw_condt rfl ?_
   refine cw_seq ?_
   refine cw_reg ?_
   refine ry (y_asg rfl rfl) rfl rfl ?_
   refine ry (y_asg rfl rfl) rfl rfl ?_
   refine reg_nil ?_
   refine fn_next ?_
   refine cw_ret ?_
   refine fn_block_ret (fn_then_ret ?_)
   refine fn_retn (vs := [_, _]) rfl ⟨rfl, rfl, trivial⟩ rfl ?_
   unfold hC
   rw [if_pos (Classical.not_not.1 (by assumption)), if_pos (by omega)]
   exact ⟨rfl, H6.base⟩
  ·skip
   refine rgy (y_mov rfl rfl) rfl rfl rfl rfl ?_
   refine rgy (y_gtr rfl rfl rfl) rfl rfl rfl rfl ?_
   refine ry (y_pick rfl rfl rfl) rfl rfl ?_
   refine ry (y_asg rfl rfl) rfl rfl ?_
   refine reg_nil ?_
   refine fn_next ?_
   refine cw_condd rfl (fun h9 => ?_) (fun h9 => ?_)
   ·skip
    refine cw_seq ?_
    refine cw_reg ?_
    refine ry (y_asg rfl rfl) rfl rfl ?_
    refine ry (y_asg rfl rfl) rfl rfl ?_
    refine reg_nil ?_
    refine fn_next ?_
    refine cw_ret ?_
    refine fn_block_ret (fn_then_ret ?_)
    refine fn_retn (vs := [_, _]) rfl ⟨rfl, rfl, trivial⟩ rfl ?_
    unfold hC
    rw [if_pos (Classical.not_not.1 (by assumption)), if_pos (by omega)]
    exact ⟨rfl, H6.base⟩
   · exact absurd (by unfold hC; rw [if_pos (Classical.not_not.1 (by assumption)), if_neg (by omega)]) hc

theorem hC_w {a h : Nat} {cx cy high : Int} (q : hC a h cx cy high = 0) : withinC cx cy cx cy a h = 0 := by
  unfold hC at q
  by_cases e : withinC cx cy cx cy a h = 0
  · exact e
  · rw [if_neg e] at q; exact absurd q (by decide)
theorem hC_h {a h : Nat} {cx cy high : Int} (q : hC a h cx cy high = 0) : 0 ≤ high ∧ high ≤ 1048576 := by
  have e := hC_w q
  unfold hC at q
  rw [if_pos e] at q
  by_cases c : high < 0 ∨ high > 1048576
  · rw [if_pos c] at q; exact absurd q (by decide)
  · omega

set_option maxRecDepth 100000 in
theorem hChk_ok (g a h : Nat) (V : List Int) (cx cy high : Int) (w : World) (R : GRd w g a h V) (hc : hC a h cx cy high = 0) :
    Ret Tryd.prog 29 [.pointer (some ⟨g, 0, none⟩), .agg #[.int .i64 cx, .int .i64 cy], .int .i64 high] w (fun z w' => z = .tuple #[.int .i64 (gatV V a h cx cy + high), .int .i64 0] ∧ Below w.heap.size w w') := by
 have hgv := R.gv
 have hgs := hgv.sz
 have hw : withinC cx cy cx cy a h = 0 := hC_w hc
 have hh := hC_h hc
 have hgb := gatV_B32 (a := a) (h := h) (x := cx) (y := cy) hgv.bd
 refine ret_enter Tryd.func29 rfl rfl rfl ?_
 have H0 := HS.start w
 refine cw_seq ?_
 refine cw_reg ?_
 refine reg_op (op_box (cs := [.int _ _, .int _ _]) H0 rfl rfl rfl) rfl rfl ?_
 rintro _ w2 ⟨b1, rfl, H3⟩
 refine ry (y_asg rfl rfl) rfl rfl ?_
 refine ry (y_asg rfl rfl) rfl rfl ?_
 refine reg_nil ?_
 refine fn_next ?_
 refine cw_seq ?_
 refine cw_reg ?_
 refine ry (y_mov rfl rfl) rfl rfl ?_
 refine ry (y_ldb (i := 0) (cs := [_, _]) H3 rfl rfl kfhor0_6 rfl rfl) rfl rfl ?_
 refine reg_op (op_call (gAt g a h (V) cx cy _ (R.below H3.base)) rfl kfhor0_7 ⟨rfl, rfl, trivial⟩) rfl rfl ?_
 rintro _ w5 ⟨rfl, e4⟩
 have H6 := H3.ext e4
 refine ry (y_mov rfl rfl) rfl rfl ?_
 refine ry (y_ext rfl rfl rfl) rfl rfl ?_
 refine ry (y_ext rfl rfl rfl) rfl rfl ?_
 refine ry (y_asg rfl rfl) rfl rfl ?_
 refine ry (y_asg rfl rfl) rfl rfl ?_
 refine reg_nil ?_
 refine fn_next ?_
 refine cw_seq ?_
 refine cw_block ?_
 refine cw_seq ?_
 refine cw_reg ?_
 refine ry (y_mov rfl rfl) rfl rfl ?_
 refine ry (y_neq rfl rfl rfl) rfl rfl ?_
 refine ry (y_asg rfl rfl) rfl rfl ?_
 refine reg_nil ?_
 refine fn_next ?_
 refine cw_condd rfl (fun h7 => ?_) (fun h7 => ?_)
 · exact absurd hw h7
 ·skip
  refine cw_seq ?_
  refine cw_reg ?_
  refine ry (y_mov rfl rfl) rfl rfl ?_
  refine ry (y_lss rfl rfl rfl) rfl rfl ?_
  refine ry (y_mov rfl rfl) rfl rfl ?_
  refine rg_splitd (d := 23) rfl (fun h8 => ?_) (fun h8 => ?_)
  · exfalso; omega
  ·skip
   refine rgy (y_mov rfl rfl) rfl rfl rfl rfl ?_
   refine rgy (y_gtr rfl rfl rfl) rfl rfl rfl rfl ?_
   refine ry (y_pick rfl rfl rfl) rfl rfl ?_
   refine ry (y_asg rfl rfl) rfl rfl ?_
   refine reg_nil ?_
   refine fn_next ?_
   refine cw_condd rfl (fun h9 => ?_) (fun h9 => ?_)
   · exfalso; omega
   ·skip
    refine cw_skip ?_
    refine fn_block ?_
    refine fn_next ?_
    refine cw_seq ?_
    refine cw_reg ?_
    refine ry (y_mov rfl rfl) rfl rfl ?_
    refine ry (y_mov rfl rfl) rfl rfl ?_
    refine ry (y_add rfl rfl rfl (wi (by omega))) rfl rfl ?_
    refine ry (y_asg rfl rfl) rfl rfl ?_
    refine ry (y_asg rfl rfl) rfl rfl ?_
    refine reg_nil ?_
    refine fn_next ?_
    refine cw_ret ?_
    refine fn_retn (vs := [_, _]) rfl ⟨rfl, rfl, trivial⟩ rfl ?_
    exact ⟨rfl, H6.base⟩

set_option maxRecDepth 100000 in
set_option maxHeartbeats 1000000 in
theorem hAhead (g a h : Nat) (V : List Int) (cx cy e dx dy : Int) (w : World) (R : GRd w g a h V) (d : OkD dx dy) (hi : inB a h cx cy = true) (he : -10000000000 ≤ e ∧ e ≤ 10000000000) :
    Ret Tryd.prog 30 [.pointer (some ⟨g, 0, none⟩), .agg #[.int .i64 cx, .int .i64 cy], .int .i64 e, .agg #[.int .i64 dx, .int .i64 dy]] w (fun z w' => ∃ A1 c1 A2 c2, z = .tuple #[.slice A1 (ms a h cx cy dx dy) c1, .slice A2 (ms a h cx cy dx dy) c2] ∧ HS w w' [.row A1 (ms a h cx cy dx dy) c1 (vi .i64 (pr (hX cx dx) (hX cy dy) (ms a h cx cy dx dy))) 24 2, .row A2 (ms a h cx cy dx dy) c2 (vi .i64 (pr (hU V a h cx cy dx dy e) hO (ms a h cx cy dx dy))) 34 2]) := by
 have hgv := R.gv
 have hgs := hgv.sz
 have hms := ms_spec hgs d hi
 have hmb := hms.2.2
 have ga := hgs
 obtain ⟨z1, z2, z3, z4⟩ := ga
 have d1 := d.x1
 have d2 := d.x2
 have d3 := d.y1
 have d4 := d.y2
 refine ret_enter Tryd.func30 rfl rfl rfl ?_
 have H0 := HS.start w
 refine cw_seq ?_
 refine cw_reg ?_
 refine reg_op (op_box (cs := [.int _ _, .int _ _]) H0 rfl rfl rfl) rfl rfl ?_
 rintro _ w2 ⟨b1, rfl, H3⟩
 refine reg_op (op_box (cs := [.int _ _, .int _ _]) H3 rfl rfl rfl) rfl rfl ?_
 rintro _ w5 ⟨b4, rfl, H6⟩
 refine ry (y_asg rfl rfl) rfl rfl ?_
 refine ry (y_asg rfl rfl) rfl rfl ?_
 refine reg_nil ?_
 refine fn_next ?_
 refine cw_seq ?_
 refine cw_reg ?_
 refine ry (y_asg rfl rfl) rfl rfl ?_
 refine reg_nil ?_
 refine fn_next ?_
 refine cw_seq ?_
 refine cw_reg ?_
 refine ry (y_asg rfl rfl) rfl rfl ?_
 refine reg_nil ?_
 refine fn_next ?_
 refine cw_seq ?_
 refine cw_reg ?_
 refine ry (y_asg rfl rfl) rfl rfl ?_
 refine reg_nil ?_
 refine fn_next ?_
 refine cw_block ?_
 have H7 := H6.nilrow 24 2
 have H8 := H7.nilrow 34 2
 rw [← sX0 cx dx, ← sX0 cy dy] at H8
 refine cw_loopJ [8, 9, 10, 11, 12, 13, 14, 15, 16, 17, 18, 19, 20, 21, 22, 23, 24, 25, 26, 27, 28, 29, 30, 31, 32, 33, 34, 35, 36, 37, 38, 39, 40, 41, 42, 43, 44, 45, 46, 47, 48, 49] (fun M wl ml => ∃ (i : Nat) (A1 : Option Addr) (c1 : Nat) (A2 : Option Addr) (c2 : Nat), M = [(12, .int .i64 ((i : Int) + 1)), (10, .slice A1 i c1), (11, .slice A2 i c2)] ∧ HS w wl [Ob.row A2 i c2 (vi .i64 (pr (hU V a h cx cy dx dy e) hO i)) 34 2, Ob.row A1 i c1 (vi .i64 (pr (hX cx dx) (hX cy dy) i)) 24 2, Ob.blk b4 [.int .i64 dx, .int .i64 dy] 24, Ob.blk b1 [.int .i64 (sX cx dx i), .int .i64 (sX cy dy i)] 24] ∧ (i ≤ (ms a h cx cy dx dy)) ∧ ml = (ms a h cx cy dx dy) + 1 - i) ⟨0, _, _, _, _, rfl, H8, Nat.zero_le _, rfl⟩ ⟨rfl, rfl, rfl, trivial⟩ ?_
 rintro M w9 m11 ⟨i, A1, c1, A2, c2, rfl, H10, hp0, rfl⟩
 have hin := inB_bd (hms.1 i hp0)
 refine cw_seq ?_
 refine cw_block ?_
 refine cw_seq ?_
 refine cw_reg ?_
 refine ry (y_fa rfl rfl kfhor0_8 rfl) rfl rfl ?_
 refine ry (y_ld rfl rfl kfhor0_9 (H10.cell (i := 3) rfl rfl)) rfl rfl ?_
 refine ry (y_fa rfl rfl kfhor0_8 rfl) rfl rfl ?_
 refine ry (y_ld rfl rfl kfhor0_9 (H10.cell (i := 2) rfl rfl)) rfl rfl ?_
 refine ry (y_add rfl rfl rfl ((wi (by omega)).trans (sXs cx dx i))) rfl rfl ?_
 refine ry (y_fa rfl rfl kfhor0_10 rfl) rfl rfl ?_
 refine ry (y_ld rfl rfl kfhor0_9 (H10.cell (i := 3) rfl rfl)) rfl rfl ?_
 refine ry (y_fa rfl rfl kfhor0_10 rfl) rfl rfl ?_
 refine ry (y_ld rfl rfl kfhor0_9 (H10.cell (i := 2) rfl rfl)) rfl rfl ?_
 refine ry (y_add rfl rfl rfl ((wi (by omega)).trans (sXs cy dy i))) rfl rfl ?_
 refine ry (y_build (places := [(0, 1), (1, 1)]) (parts := [(0, _), (1, _)]) (vs := [(0, _), (1, _)]) (cs := [.int _ _, .int _ _]) rfl Tryd.underlying24 (by kernel_rfl) kfhor0_11 rfl ⟨rfl, rfl, trivial⟩ rfl) rfl rfl ?_
 refine reg_op (op_st (i := 3) (vs := [.int _ _, .int _ _]) H10 rfl rfl rfl rfl rfl kfhor0_12 rfl rfl rfl) rfl rfl ?_
 rintro _ w12 H13
 refine reg_nil ?_
 refine fn_next ?_
 refine cw_seq ?_
 refine cw_reg ?_
 refine ry (y_mov rfl rfl) rfl rfl ?_
 refine ry (y_ldb (i := 3) (cs := [_, _]) H13 rfl rfl kfhor0_6 rfl rfl) rfl rfl ?_
 refine reg_op (op_call (gAt g a h (V) (sX cx dx (i + 1)) (sX cy dy (i + 1)) _ (R.below H13.base)) rfl kfhor0_7 ⟨rfl, rfl, trivial⟩) rfl rfl ?_
 rintro _ w15 ⟨rfl, e14⟩
 have H16 := H13.ext e14
 refine ry (y_mov rfl rfl) rfl rfl ?_
 refine ry (y_ext rfl rfl rfl) rfl rfl ?_
 refine ry (y_ext rfl rfl rfl) rfl rfl ?_
 refine ry (y_asg rfl rfl) rfl rfl ?_
 refine ry (y_asg rfl rfl) rfl rfl ?_
 refine reg_nil ?_
 refine fn_next ?_
 refine cw_seq ?_
 refine cw_seq ?_
 refine cw_reg ?_
 refine ry (y_mov rfl rfl) rfl rfl ?_
 refine ry (y_neq rfl rfl rfl) rfl rfl ?_
 refine reg_nil ?_
 refine fn_next ?_
 refine cw_condd rfl (fun h17 => ?_) (fun h17 => ?_)
 ·skip
  have hie := ms_stop hgs d hi hp0 h17
  subst hie
  refine cw_seq ?_
  refine cw_reg ?_
  refine ry (y_mov rfl rfl) rfl rfl ?_
  refine ry (y_mov rfl rfl) rfl rfl ?_
  refine ry (y_asg rfl rfl) rfl rfl ?_
  refine ry (y_asg rfl rfl) rfl rfl ?_
  refine reg_nil ?_
  refine fn_next ?_
  refine cw_ret ?_
  refine fn_then_ret (fn_block_ret (fn_then_ret (fn_then_ret (fn_block_ret ?_))))
  refine fn_retn (vs := [_, _]) rfl ⟨rfl, rfl, trivial⟩ rfl ?_
  exact ⟨_, _, _, _, rfl, (H16.pick (m := [_, _]) [1, 0] rfl (by decide))⟩
 ·skip
  have hlt := ms_go hgs d hi hp0 (Classical.not_not.1 h17)
  have hgb := gatV_B32 (a := a) (h := h) (x := sX cx dx (i + 1)) (y := sX cy dy (i + 1)) hgv.bd
  refine cw_skip ?_
  refine fn_next ?_
  refine cw_seq ?_
  refine cw_reg ?_
  refine ry (y_mov rfl rfl) rfl rfl ?_
  refine ry (y_ldb (i := 3) (cs := [_, _]) H16 rfl rfl kfhor0_6 rfl rfl) rfl rfl ?_
  refine reg_op (op_lit (parts := [(0, _)]) (vs := [(0, _)]) (cs := [.int _ _, .int _ _]) H16 rfl Tryd.underlying72 kfhor0_13 rfl ⟨rfl, trivial⟩ rfl rfl) rfl rfl ?_
  rintro _ w19 ⟨b18, rfl, H20⟩
  have H21 := H20.asrow (m := 1) (size := 2) rfl (by decide)
  refine reg_op (op_app (i := 2) H21 rfl rfl rfl rfl (H21.rd (i := 0) rfl) (rfl) (rfl) Tryd.underlying72 kfhor0_14 rfl rfl (by unfold maxLen; omega) (by omega)) rfl rfl ?_
  rintro _ w24 ⟨A22, c23, rfl, H25⟩
  refine ry (y_asg rfl rfl) rfl rfl ?_
  refine reg_nil ?_
  refine fn_next ?_
  refine cw_reg ?_
  refine ry (y_mov rfl rfl) rfl rfl ?_
  refine ry (y_mov rfl rfl) rfl rfl ?_
  refine ry (y_mov rfl rfl) rfl rfl ?_
  refine ry (y_sub rfl rfl rfl (show _ = hU V a h cx cy dx dy e i from wi (by omega))) rfl rfl ?_
  refine ry (y_mov rfl rfl) rfl rfl ?_
  refine ry (y_build (places := [(0, 1), (1, 1)]) (parts := [(0, _), (1, _)]) (vs := [(0, _), (1, _)]) (cs := [.int _ _, .int _ _]) rfl Tryd.underlying34 (by kernel_rfl) kfhor0_3 rfl ⟨rfl, rfl, trivial⟩ rfl) rfl rfl ?_
  refine reg_op (op_lit (parts := [(0, _)]) (vs := [(0, _)]) (cs := [.int _ _, .int _ _]) H25 rfl Tryd.underlying43 kfhor0_15 rfl ⟨rfl, trivial⟩ rfl rfl) rfl rfl ?_
  rintro _ w27 ⟨b26, rfl, H28⟩
  have H29 := H28.asrow (m := 1) (size := 2) rfl (by decide)
  refine reg_op (op_app (i := 2) H29 rfl rfl rfl rfl (H29.rd (i := 0) rfl) (rfl) (rfl) Tryd.underlying43 kfhor0_16 rfl rfl (by unfold maxLen; omega) (by omega)) rfl rfl ?_
  rintro _ w32 ⟨A30, c31, rfl, H33⟩
  refine ry (y_asg rfl rfl) rfl rfl ?_
  refine reg_nil ?_
  refine fn_block ?_
  refine fn_next ?_
  refine cw_reg ?_
  refine ry (y_mov rfl rfl) rfl rfl ?_
  refine ry (y_add rfl rfl rfl (show _ = ((i + 1 : Nat) : Int) + 1 from (wi (by omega)).trans (by omega))) rfl rfl ?_
  refine ry (y_asg rfl rfl) rfl rfl ?_
  refine reg_nil ?_
  rw [vi_pair (x := sX cx dx (i + 1)) (y := sX cy dy (i + 1)) (f := hX cx dx) (g := hX cy dy) (n := i) rfl rfl, vi_pair (x := (hU V a h cx cy dx dy e) i) (y := (i : Int) + 1) (f := (hU V a h cx cy dx dy e)) (g := hO) (n := i) rfl rfl] at H33
  refine fn_roundJ ⟨i + 1, _, _, _, _, rfl, (H33.pick (m := [_, _, _, _]) [2, 3, 4, 5] rfl (by decide)), by omega, rfl⟩ ⟨rfl, rfl, rfl, trivial⟩ (by omega) (by repeat (first | exact kp_refl | refine kp_app rfl rfl ?_ | refine kp_cons rfl ?_)) rfl

set_option maxRecDepth 100000 in
theorem hStp_no0 (g a h : Nat) (V : List Int) (cx cy high dir : Int) (w : World) (R : GRd w g a h V) (hc : ¬ hC a h cx cy high = 0) :
    Ret Tryd.prog 11 [.pointer (some ⟨g, 0, none⟩), .agg #[.int .i64 cx, .int .i64 cy], .int .i64 high, .int .i64 dir] w (fun z w' => z = .tuple #[.agg #[.int .i64 0, .int .i64 0], .agg #[.int .i64 0, .int .i64 0], .bool false, .int .i64 (hC a h cx cy high)] ∧ Below w.heap.size w w') := by
 have hgv := R.gv
 have hgs := hgv.sz
 refine ret_enter Tryd.func11 rfl rfl rfl ?_
 have H0 := HS.start w
 refine cw_seq ?_
 refine cw_reg ?_
 refine reg_op (op_box (cs := [.int _ _, .int _ _]) H0 rfl rfl rfl) rfl rfl ?_
 rintro _ w2 ⟨b1, rfl, H3⟩
 refine reg_op (op_alloc H3 rfl kfhor0_3) rfl rfl ?_
 rintro _ w5 ⟨b4, rfl, H6⟩
 refine reg_op (op_alloc H6 rfl kfhor0_11) rfl rfl ?_
 rintro _ w8 ⟨b7, rfl, H9⟩
 refine ry (y_asg rfl rfl) rfl rfl ?_
 refine ry (y_asg rfl rfl) rfl rfl ?_
 refine reg_nil ?_
 refine fn_next ?_
 refine cw_seq ?_
 refine cw_reg ?_
 refine ry (y_mov rfl rfl) rfl rfl ?_
 refine ry (y_ldb (i := 2) (cs := [_, _]) H9 rfl rfl kfhor0_6 rfl rfl) rfl rfl ?_
 refine ry (y_mov rfl rfl) rfl rfl ?_
 refine reg_op (op_call (hChk_no g a h (V) cx cy high _ (R.below H9.base) hc) rfl kfhor0_17 ⟨rfl, rfl, rfl, trivial⟩) rfl rfl ?_
 rintro _ w11 ⟨rfl, e10⟩
 have H12 := H9.ext e10
 refine ry (y_mov rfl rfl) rfl rfl ?_
 refine ry (y_ext rfl rfl rfl) rfl rfl ?_
 refine ry (y_ext rfl rfl rfl) rfl rfl ?_
 refine ry (y_asg rfl rfl) rfl rfl ?_
 refine ry (y_asg rfl rfl) rfl rfl ?_
 refine reg_nil ?_
 refine fn_next ?_
 refine cw_seq ?_
 refine cw_seq ?_
 refine cw_reg ?_
 refine ry (y_mov rfl rfl) rfl rfl ?_
 refine ry (y_eql rfl rfl rfl) rfl rfl ?_
 refine ry (y_mov rfl rfl) rfl rfl ?_
 refine rg_splitd (d := 26) rfl (fun h13 => ?_) (fun h13 => ?_)
 · exact absurd h13 hc
 ·skip
  refine rg_off rfl rfl rfl rfl rfl ?_
  refine rg_off rfl rfl rfl rfl rfl ?_
  refine rg_off rfl rfl rfl rfl rfl ?_
  refine rg_offu rfl rfl rfl rfl ?_
  refine rg_offu rfl rfl rfl rfl ?_
  refine rg_off rfl rfl rfl rfl rfl ?_
  refine ry (y_pick rfl rfl rfl) rfl rfl ?_
  refine reg_nil ?_
  refine fn_next ?_
  refine cw_condf rfl ?_
  refine cw_skip ?_
  refine fn_next ?_
  refine cw_seq ?_
  refine cw_seq ?_
  refine cw_reg ?_
  refine ry (y_mov rfl rfl) rfl rfl ?_
  refine ry (y_neq rfl rfl rfl) rfl rfl ?_
  refine reg_nil ?_
  refine fn_next ?_
  refine cw_condd rfl (fun h14 => ?_) (fun h14 => ?_)
  ·skip
   refine cw_seq ?_
   refine cw_reg ?_
   refine ry (y_build (places := [(0, 1), (1, 1)]) (parts := []) (vs := []) (cs := [.int _ _, .int _ _]) rfl Tryd.underlying34 (by kernel_rfl) kfhor0_3 rfl trivial rfl) rfl rfl ?_
   refine ry (y_build (places := [(0, 1), (1, 1)]) (parts := []) (vs := []) (cs := [.int _ _, .int _ _]) rfl Tryd.underlying24 (by kernel_rfl) kfhor0_11 rfl trivial rfl) rfl rfl ?_
   refine ry (y_mov rfl rfl) rfl rfl ?_
   refine reg_op (op_st (i := 1) (vs := [.int _ _, .int _ _]) H12 rfl rfl rfl rfl rfl kfhor0_4 rfl rfl rfl) rfl rfl ?_
   rintro _ w15 H16
   refine reg_op (op_st (i := 0) (vs := [.int _ _, .int _ _]) H16 rfl rfl rfl rfl rfl kfhor0_12 rfl rfl rfl) rfl rfl ?_
   rintro _ w17 H18
   refine ry (y_asg rfl rfl) rfl rfl ?_
   refine ry (y_asg rfl rfl) rfl rfl ?_
   refine reg_nil ?_
   refine fn_next ?_
   refine cw_ret ?_
   refine fn_then_ret ?_
   refine fn_retn (vs := [_, _, _, _]) rfl ⟨⟨_, rfl, load_agg (cs := [_, _]) kfhor0_2 rfl fun j v hv => by rw [Nat.zero_add]; exact H18.cell (i := 1) rfl hv⟩, ⟨_, rfl, load_agg (cs := [_, _]) kfhor0_6 rfl fun j v hv => by rw [Nat.zero_add]; exact H18.cell (i := 0) rfl hv⟩, rfl, rfl, trivial⟩ rfl ?_
   exact ⟨rfl, H18.base⟩
  · exact absurd (Classical.not_not.1 h14) hc

set_option maxRecDepth 100000 in
theorem hStp_no1 (g a h : Nat) (V : List Int) (cx cy high dir : Int) (w : World) (R : GRd w g a h V) (hc : hC a h cx cy high = 0) (hd : dir < 0 ∨ dir ≥ 8) :
    Ret Tryd.prog 11 [.pointer (some ⟨g, 0, none⟩), .agg #[.int .i64 cx, .int .i64 cy], .int .i64 high, .int .i64 dir] w (fun z w' => z = .tuple #[.agg #[.int .i64 0, .int .i64 0], .agg #[.int .i64 0, .int .i64 0], .bool false, .int .i64 (11)] ∧ Below w.heap.size w w') := by
 have hgv := R.gv
 have hgs := hgv.sz
 refine ret_enter Tryd.func11 rfl rfl rfl ?_
 have H0 := HS.start w
 refine cw_seq ?_
 refine cw_reg ?_
 refine reg_op (op_box (cs := [.int _ _, .int _ _]) H0 rfl rfl rfl) rfl rfl ?_
 rintro _ w2 ⟨b1, rfl, H3⟩
 refine reg_op (op_alloc H3 rfl kfhor0_3) rfl rfl ?_
 rintro _ w5 ⟨b4, rfl, H6⟩
 refine reg_op (op_alloc H6 rfl kfhor0_11) rfl rfl ?_
 rintro _ w8 ⟨b7, rfl, H9⟩
 refine ry (y_asg rfl rfl) rfl rfl ?_
 refine ry (y_asg rfl rfl) rfl rfl ?_
 refine reg_nil ?_
 refine fn_next ?_
 refine cw_seq ?_
 refine cw_reg ?_
 refine ry (y_mov rfl rfl) rfl rfl ?_
 refine ry (y_ldb (i := 2) (cs := [_, _]) H9 rfl rfl kfhor0_6 rfl rfl) rfl rfl ?_
 refine ry (y_mov rfl rfl) rfl rfl ?_
 refine reg_op (op_call (hChk_ok g a h (V) cx cy high _ (R.below H9.base) hc) rfl kfhor0_17 ⟨rfl, rfl, rfl, trivial⟩) rfl rfl ?_
 rintro _ w11 ⟨rfl, e10⟩
 have H12 := H9.ext e10
 refine ry (y_mov rfl rfl) rfl rfl ?_
 refine ry (y_ext rfl rfl rfl) rfl rfl ?_
 refine ry (y_ext rfl rfl rfl) rfl rfl ?_
 refine ry (y_asg rfl rfl) rfl rfl ?_
 refine ry (y_asg rfl rfl) rfl rfl ?_
 refine reg_nil ?_
 refine fn_next ?_
 refine cw_seq ?_
 refine cw_seq ?_
 refine cw_reg ?_
 refine ry (y_mov rfl rfl) rfl rfl ?_
 refine ry (y_eql rfl rfl rfl) rfl rfl ?_
 refine ry (y_mov rfl rfl) rfl rfl ?_
 refine rgy (y_mov rfl rfl) rfl rfl rfl rfl ?_
 refine rgy (y_lss rfl rfl rfl) rfl rfl rfl rfl ?_
 refine rgy (y_mov rfl rfl) rfl rfl rfl rfl ?_
 refine rg_splitd (d := 29) rfl (fun h13 => ?_) (fun h13 => ?_)
 ·skip
  refine rg_off rfl rfl rfl rfl rfl ?_
  refine rg_off rfl rfl rfl rfl rfl ?_
  refine rgy (y_pick rfl rfl rfl) rfl rfl rfl rfl ?_
  refine ry (y_pick rfl rfl rfl) rfl rfl ?_
  refine reg_nil ?_
  refine fn_next ?_
  refine cw_condt rfl ?_
  refine cw_reg ?_
  refine ry (y_asg rfl rfl) rfl rfl ?_
  refine reg_nil ?_
  refine fn_next ?_
  refine cw_seq ?_
  refine cw_seq ?_
  refine cw_reg ?_
  refine ry (y_mov rfl rfl) rfl rfl ?_
  refine ry (y_neq rfl rfl rfl) rfl rfl ?_
  refine reg_nil ?_
  refine fn_next ?_
  refine cw_condt rfl ?_
  refine cw_seq ?_
  refine cw_reg ?_
  refine ry (y_build (places := [(0, 1), (1, 1)]) (parts := []) (vs := []) (cs := [.int _ _, .int _ _]) rfl Tryd.underlying34 (by kernel_rfl) kfhor0_3 rfl trivial rfl) rfl rfl ?_
  refine ry (y_build (places := [(0, 1), (1, 1)]) (parts := []) (vs := []) (cs := [.int _ _, .int _ _]) rfl Tryd.underlying24 (by kernel_rfl) kfhor0_11 rfl trivial rfl) rfl rfl ?_
  refine ry (y_mov rfl rfl) rfl rfl ?_
  refine reg_op (op_st (i := 1) (vs := [.int _ _, .int _ _]) H12 rfl rfl rfl rfl rfl kfhor0_4 rfl rfl rfl) rfl rfl ?_
  rintro _ w14 H15
  refine reg_op (op_st (i := 0) (vs := [.int _ _, .int _ _]) H15 rfl rfl rfl rfl rfl kfhor0_12 rfl rfl rfl) rfl rfl ?_
  rintro _ w16 H17
  refine ry (y_asg rfl rfl) rfl rfl ?_
  refine ry (y_asg rfl rfl) rfl rfl ?_
  refine reg_nil ?_
  refine fn_next ?_
  refine cw_ret ?_
  refine fn_then_ret ?_
  refine fn_retn (vs := [_, _, _, _]) rfl ⟨⟨_, rfl, load_agg (cs := [_, _]) kfhor0_2 rfl fun j v hv => by rw [Nat.zero_add]; exact H17.cell (i := 1) rfl hv⟩, ⟨_, rfl, load_agg (cs := [_, _]) kfhor0_6 rfl fun j v hv => by rw [Nat.zero_add]; exact H17.cell (i := 0) rfl hv⟩, rfl, rfl, trivial⟩ rfl ?_
  exact ⟨rfl, H17.base⟩
 ·skip
  refine rgy (y_mov rfl rfl) rfl rfl rfl rfl ?_
  refine rgy (y_geq rfl rfl rfl) rfl rfl rfl rfl ?_
  refine rgy (y_pick rfl rfl rfl) rfl rfl rfl rfl ?_
  refine ry (y_pick rfl rfl rfl) rfl rfl ?_
  refine reg_nil ?_
  refine fn_next ?_
  refine cw_condd rfl (fun h18 => ?_) (fun h18 => ?_)
  ·skip
   refine cw_reg ?_
   refine ry (y_asg rfl rfl) rfl rfl ?_
   refine reg_nil ?_
   refine fn_next ?_
   refine cw_seq ?_
   refine cw_seq ?_
   refine cw_reg ?_
   refine ry (y_mov rfl rfl) rfl rfl ?_
   refine ry (y_neq rfl rfl rfl) rfl rfl ?_
   refine reg_nil ?_
   refine fn_next ?_
   refine cw_condt rfl ?_
   refine cw_seq ?_
   refine cw_reg ?_
   refine ry (y_build (places := [(0, 1), (1, 1)]) (parts := []) (vs := []) (cs := [.int _ _, .int _ _]) rfl Tryd.underlying34 (by kernel_rfl) kfhor0_3 rfl trivial rfl) rfl rfl ?_
   refine ry (y_build (places := [(0, 1), (1, 1)]) (parts := []) (vs := []) (cs := [.int _ _, .int _ _]) rfl Tryd.underlying24 (by kernel_rfl) kfhor0_11 rfl trivial rfl) rfl rfl ?_
   refine ry (y_mov rfl rfl) rfl rfl ?_
   refine reg_op (op_st (i := 1) (vs := [.int _ _, .int _ _]) H12 rfl rfl rfl rfl rfl kfhor0_4 rfl rfl rfl) rfl rfl ?_
   rintro _ w19 H20
   refine reg_op (op_st (i := 0) (vs := [.int _ _, .int _ _]) H20 rfl rfl rfl rfl rfl kfhor0_12 rfl rfl rfl) rfl rfl ?_
   rintro _ w21 H22
   refine ry (y_asg rfl rfl) rfl rfl ?_
   refine ry (y_asg rfl rfl) rfl rfl ?_
   refine reg_nil ?_
   refine fn_next ?_
   refine cw_ret ?_
   refine fn_then_ret ?_
   refine fn_retn (vs := [_, _, _, _]) rfl ⟨⟨_, rfl, load_agg (cs := [_, _]) kfhor0_2 rfl fun j v hv => by rw [Nat.zero_add]; exact H22.cell (i := 1) rfl hv⟩, ⟨_, rfl, load_agg (cs := [_, _]) kfhor0_6 rfl fun j v hv => by rw [Nat.zero_add]; exact H22.cell (i := 0) rfl hv⟩, rfl, rfl, trivial⟩ rfl ?_
   exact ⟨rfl, H22.base⟩
  · exfalso; omega

set_option maxRecDepth 100000 in
set_option maxHeartbeats 1000000 in
theorem hStp_ok0 (g a h : Nat) (V : List Int) (cx cy high : Int) (d : Nat) (w : World) (R : GRd w g a h V) (hG : Rd w (some ⟨0, 0, none⟩) (vi .i64 (pr dX dY 8))) (hc : hC a h cx cy high = 0) (hd : d < 8) (hmz : (ms a h cx cy (dX d) (dY d)) = 0) :
    Ret Tryd.prog 11 [.pointer (some ⟨g, 0, none⟩), .agg #[.int .i64 cx, .int .i64 cy], .int .i64 high, .int .i64 (d : Int)] w (fun z w' => z = .tuple #[.agg #[.int .i64 0, .int .i64 0], .agg #[.int .i64 0, .int .i64 0], .bool false, .int .i64 (0)] ∧ Below w.heap.size w w') := by
 have hgv := R.gv
 have hgs := hgv.sz
 have hi := (inB_w (x := cx) (y := cy) hgs).2 (hC_w hc)
 have hh := hC_h hc
 have hgb := gatV_B32 (a := a) (h := h) (x := cx) (y := cy) hgv.bd
 have hmb := (ms_spec hgs (okD hd) hi).2.2
 have gg0 := pr_at0 (f := dX) (g := dY) hd
 have gg1 := pr_at (f := dX) (g := dY) hd
 have hub := hU_bd (a := a) (h := h) (cx := cx) (cy := cy) (dx := dX d) (dy := dY d) (e := (gatV V a h cx cy + high)) hgv.bd (by omega) (ms a h cx cy (dX d) (dY d))
 refine ret_enter Tryd.func11 rfl rfl rfl ?_
 have H0 := HS.start w
 refine cw_seq ?_
 refine cw_reg ?_
 refine reg_op (op_box (cs := [.int _ _, .int _ _]) H0 rfl rfl rfl) rfl rfl ?_
 rintro _ w2 ⟨b1, rfl, H3⟩
 refine reg_op (op_alloc H3 rfl kfhor0_3) rfl rfl ?_
 rintro _ w5 ⟨b4, rfl, H6⟩
 refine reg_op (op_alloc H6 rfl kfhor0_11) rfl rfl ?_
 rintro _ w8 ⟨b7, rfl, H9⟩
 refine ry (y_asg rfl rfl) rfl rfl ?_
 refine ry (y_asg rfl rfl) rfl rfl ?_
 refine reg_nil ?_
 refine fn_next ?_
 refine cw_seq ?_
 refine cw_reg ?_
 refine ry (y_mov rfl rfl) rfl rfl ?_
 refine ry (y_ldb (i := 2) (cs := [_, _]) H9 rfl rfl kfhor0_6 rfl rfl) rfl rfl ?_
 refine ry (y_mov rfl rfl) rfl rfl ?_
 refine reg_op (op_call (hChk_ok g a h (V) cx cy high _ (R.below H9.base) hc) rfl kfhor0_17 ⟨rfl, rfl, rfl, trivial⟩) rfl rfl ?_
 rintro _ w11 ⟨rfl, e10⟩
 have H12 := H9.ext e10
 refine ry (y_mov rfl rfl) rfl rfl ?_
 refine ry (y_ext rfl rfl rfl) rfl rfl ?_
 refine ry (y_ext rfl rfl rfl) rfl rfl ?_
 refine ry (y_asg rfl rfl) rfl rfl ?_
 refine ry (y_asg rfl rfl) rfl rfl ?_
 refine reg_nil ?_
 refine fn_next ?_
 refine cw_seq ?_
 refine cw_seq ?_
 refine cw_reg ?_
 refine ry (y_mov rfl rfl) rfl rfl ?_
 refine ry (y_eql rfl rfl rfl) rfl rfl ?_
 refine ry (y_mov rfl rfl) rfl rfl ?_
 refine rgy (y_mov rfl rfl) rfl rfl rfl rfl ?_
 refine rgy (y_lss rfl rfl rfl) rfl rfl rfl rfl ?_
 refine rgy (y_mov rfl rfl) rfl rfl rfl rfl ?_
 refine rg_splitd (d := 29) rfl (fun h13 => ?_) (fun h13 => ?_)
 · exfalso; omega
 ·skip
  refine rgy (y_mov rfl rfl) rfl rfl rfl rfl ?_
  refine rgy (y_geq rfl rfl rfl) rfl rfl rfl rfl ?_
  refine rgy (y_pick rfl rfl rfl) rfl rfl rfl rfl ?_
  refine ry (y_pick rfl rfl rfl) rfl rfl ?_
  refine reg_nil ?_
  refine fn_next ?_
  refine cw_condd rfl (fun h14 => ?_) (fun h14 => ?_)
  · exfalso; omega
  ·skip
   refine cw_skip ?_
   refine fn_next ?_
   refine cw_seq ?_
   refine cw_seq ?_
   refine cw_reg ?_
   refine ry (y_mov rfl rfl) rfl rfl ?_
   refine ry (y_neq rfl rfl rfl) rfl rfl ?_
   refine reg_nil ?_
   refine fn_next ?_
   refine cw_condf rfl ?_
   refine cw_skip ?_
   refine fn_next ?_
   refine cw_seq ?_
   refine cw_drawT H12 [0, 1, 2, 3, 4, 5] (.step 6 (.step 7 (.alt (.step 8 (.alt (.step 9 (.step 10 (.step 11 (.leaf)))) (.step 10 (.step 9 (.step 11 (.leaf)))))) (.step 9 (.step 8 (.step 10 (.step 11 (.leaf)))))))) (fun X HX => HX) (by kernel_rfl) (by kernel_rfl) (by rfl) ?_
   simp only [pick, List.getElem?_cons_succ, List.getElem?_cons_zero]
   refine hk_y (fun Y HY => y_mov rfl rfl) rfl rfl ?_
   refine hk_y (fun Y HY => y_ldb (i := 2) (cs := [_, _]) HY rfl rfl kfhor0_6 rfl rfl) rfl rfl ?_
   refine hk_y (fun Y HY => y_mov rfl rfl) rfl rfl ?_
   refine hk_y (fun Y HY => y_mov rfl rfl) rfl rfl ?_
   refine hk_y (fun Y HY => y_iag rfl rfl rfl kfhor0_18 (rfl) (by omega) rfl) rfl rfl ?_
   refine hk_y (fun Y HY => y_ldra (cs := [_, _]) ((hG.below HY.base)) rfl rfl kfhor0_6 rfl (by decide) (gg1)) rfl rfl ?_
   refine hkt_nil [14, 15, 39, 46, 47, 48] (fun M wl => ∃ (A1 : Option Addr) (c1 : Nat) (A2 : Option Addr) (c2 : Nat), M = [(14, .slice A1 (ms a h cx cy (dX d) (dY d)) c1), (15, .slice A2 (ms a h cx cy (dX d) (dY d)) c2)] ∧ HS w wl [Ob.row A1 (ms a h cx cy (dX d) (dY d)) c1 (vi .i64 (pr (hX cx (dX d)) (hX cy (dY d)) (ms a h cx cy (dX d) (dY d)))) 24 2, Ob.row A2 (ms a h cx cy (dX d) (dY d)) c2 (vi .i64 (pr (hU V a h cx cy (dX d) (dY d) (gatV V a h cx cy + high)) hO (ms a h cx cy (dX d) (dY d)))) 34 2, Ob.blk b7 [.int .i64 0, .int .i64 0] 24, Ob.blk b4 [.int .i64 0, .int .i64 0] 34]) (fun wX HX => ?_) ?_
   ·skip
    refine tt_op rfl (op_call (hAhead g a h (V) cx cy (gatV V a h cx cy + high) (dX d) (dY d) _ (R.below HX.base) (okD hd) hi (by omega)) rfl kfhor0_19 ⟨rfl, rfl, rfl, rfl, trivial⟩) rfl rfl ?_
    rintro _ w16 ⟨A18, c19, A220, c221, rfl, k15⟩
    have H17 := HX.call k15
    refine ⟨(H17.pick (m := [_, _, _]) [2, 3, 4] rfl (by decide)), fun w22 e24 => ?_⟩
    have H23 := H17.ext e24
    refine tt_op rfl (Yd.op (y_mov rfl rfl)) rfl rfl ?_
    rintro _ _ ⟨rfl, rfl⟩
    refine ⟨(H23.pick (m := [_, _, _]) [2, 3, 4] rfl (by decide)), fun w25 e27 => ?_⟩
    have H26 := H23.ext e27
    refine tt_alt ?_ ?_
    ·skip
     refine tt_op rfl (Yd.op (y_ext rfl rfl rfl)) rfl rfl ?_
     rintro _ _ ⟨rfl, rfl⟩
     refine ⟨(H26.pick (m := [_, _, _]) [2, 3, 4] rfl (by decide)), fun w28 e30 => ?_⟩
     have H29 := H26.ext e30
     refine tt_alt ?_ ?_
     ·skip
      refine tt_op rfl (Yd.op (y_ext rfl rfl rfl)) rfl rfl ?_
      rintro _ _ ⟨rfl, rfl⟩
      refine ⟨(H29.pick (m := [_, _, _]) [2, 3, 4] rfl (by decide)), fun w31 e33 => ?_⟩
      have H32 := H29.ext e33
      refine tt_op rfl (Yd.op (y_asg rfl rfl)) rfl rfl ?_
      rintro _ _ ⟨rfl, rfl⟩
      refine ⟨(H32.pick (m := [_, _, _]) [2, 3, 4] rfl (by decide)), fun w34 e36 => ?_⟩
      have H35 := H32.ext e36
      refine tt_op rfl (Yd.op (y_asg rfl rfl)) rfl rfl ?_
      rintro _ _ ⟨rfl, rfl⟩
      refine ⟨(H35.pick (m := [_, _, _]) [2, 3, 4] rfl (by decide)), fun w37 e39 => ?_⟩
      have H38 := H35.ext e39
      exact tt_leaf ⟨A18, c19, A220, c221, rfl, (H38.pick (m := [_, _, _, _]) [0, 1, 2, 3] rfl (by decide))⟩ ⟨rfl, rfl, trivial⟩ (by repeat (first | exact kp_refl | refine kp_app rfl rfl ?_ | refine kp_cons rfl ?_))
     refine tt_op rfl (Yd.op (y_asg rfl rfl)) rfl rfl ?_
     rintro _ _ ⟨rfl, rfl⟩
     refine ⟨(H29.pick (m := [_, _, _]) [2, 3, 4] rfl (by decide)), fun w40 e42 => ?_⟩
     have H41 := H29.ext e42
     refine tt_op rfl (Yd.op (y_ext rfl rfl rfl)) rfl rfl ?_
     rintro _ _ ⟨rfl, rfl⟩
     refine ⟨(H41.pick (m := [_, _, _]) [2, 3, 4] rfl (by decide)), fun w43 e45 => ?_⟩
     have H44 := H41.ext e45
     refine tt_op rfl (Yd.op (y_asg rfl rfl)) rfl rfl ?_
     rintro _ _ ⟨rfl, rfl⟩
     refine ⟨(H44.pick (m := [_, _, _]) [2, 3, 4] rfl (by decide)), fun w46 e48 => ?_⟩
     have H47 := H44.ext e48
     exact tt_leaf ⟨A18, c19, A220, c221, rfl, (H47.pick (m := [_, _, _, _]) [0, 1, 2, 3] rfl (by decide))⟩ ⟨rfl, rfl, trivial⟩ (by repeat (first | exact kp_refl | refine kp_app rfl rfl ?_ | refine kp_cons rfl ?_))
    refine tt_op rfl (Yd.op (y_ext rfl rfl rfl)) rfl rfl ?_
    rintro _ _ ⟨rfl, rfl⟩
    refine ⟨(H26.pick (m := [_, _, _]) [2, 3, 4] rfl (by decide)), fun w49 e51 => ?_⟩
    have H50 := H26.ext e51
    refine tt_op rfl (Yd.op (y_ext rfl rfl rfl)) rfl rfl ?_
    rintro _ _ ⟨rfl, rfl⟩
    refine ⟨(H50.pick (m := [_, _, _]) [2, 3, 4] rfl (by decide)), fun w52 e54 => ?_⟩
    have H53 := H50.ext e54
    refine tt_op rfl (Yd.op (y_asg rfl rfl)) rfl rfl ?_
    rintro _ _ ⟨rfl, rfl⟩
    refine ⟨(H53.pick (m := [_, _, _]) [2, 3, 4] rfl (by decide)), fun w55 e57 => ?_⟩
    have H56 := H53.ext e57
    refine tt_op rfl (Yd.op (y_asg rfl rfl)) rfl rfl ?_
    rintro _ _ ⟨rfl, rfl⟩
    refine ⟨(H56.pick (m := [_, _, _]) [2, 3, 4] rfl (by decide)), fun w58 e60 => ?_⟩
    have H59 := H56.ext e60
    exact tt_leaf ⟨A18, c19, A220, c221, rfl, (H59.pick (m := [_, _, _, _]) [0, 1, 2, 3] rfl (by decide))⟩ ⟨rfl, rfl, trivial⟩ (by repeat (first | exact kp_refl | refine kp_app rfl rfl ?_ | refine kp_cons rfl ?_))
   ·skip
    rintro M w62 ⟨A1, c1, A2, c2, rfl, H61⟩
    refine fn_next ?_
    refine cw_seq ?_
    refine cw_reg ?_
    refine ry (y_mov rfl rfl) rfl rfl ?_
    refine reg_op (op_call (sStp0 _ (ms a h cx cy (dX d) (dY d)) _ _ hmz) rfl kfhor0_20 ⟨rfl, trivial⟩) rfl rfl ?_
    rintro _ w64 ⟨rfl, e63⟩
    have H65 := H61.ext e63
    refine ry (y_mov rfl rfl) rfl rfl ?_
    refine ry (y_ext rfl rfl rfl) rfl rfl ?_
    refine ry (y_ext rfl rfl rfl) rfl rfl ?_
    refine ry (y_asg rfl rfl) rfl rfl ?_
    refine ry (y_asg rfl rfl) rfl rfl ?_
    refine reg_nil ?_
    refine fn_next ?_
    refine cw_seq ?_
    refine cw_seq ?_
    refine cw_reg ?_
    refine ry (y_mov rfl rfl) rfl rfl ?_
    refine ry (y_neq rfl rfl rfl) rfl rfl ?_
    refine reg_nil ?_
    refine fn_next ?_
    refine cw_condt rfl ?_
    refine cw_seq ?_
    refine cw_reg ?_
    refine ry (y_build (places := [(0, 1), (1, 1)]) (parts := []) (vs := []) (cs := [.int _ _, .int _ _]) rfl Tryd.underlying34 (by kernel_rfl) kfhor0_3 rfl trivial rfl) rfl rfl ?_
    refine ry (y_build (places := [(0, 1), (1, 1)]) (parts := []) (vs := []) (cs := [.int _ _, .int _ _]) rfl Tryd.underlying24 (by kernel_rfl) kfhor0_11 rfl trivial rfl) rfl rfl ?_
    refine reg_op (op_st (i := 3) (vs := [.int _ _, .int _ _]) H65 rfl rfl rfl rfl rfl kfhor0_4 rfl rfl rfl) rfl rfl ?_
    rintro _ w66 H67
    refine reg_op (op_st (i := 2) (vs := [.int _ _, .int _ _]) H67 rfl rfl rfl rfl rfl kfhor0_12 rfl rfl rfl) rfl rfl ?_
    rintro _ w68 H69
    refine ry (y_asg rfl rfl) rfl rfl ?_
    refine ry (y_asg rfl rfl) rfl rfl ?_
    refine reg_nil ?_
    refine fn_next ?_
    refine cw_ret ?_
    refine fn_then_ret ?_
    refine fn_retn (vs := [_, _, _, _]) rfl ⟨⟨_, rfl, load_agg (cs := [_, _]) kfhor0_2 rfl fun j v hv => by rw [Nat.zero_add]; exact H69.cell (i := 3) rfl hv⟩, ⟨_, rfl, load_agg (cs := [_, _]) kfhor0_6 rfl fun j v hv => by rw [Nat.zero_add]; exact H69.cell (i := 2) rfl hv⟩, rfl, rfl, trivial⟩ rfl ?_
    exact ⟨rfl, H69.base⟩

set_option maxRecDepth 100000 in
set_option maxHeartbeats 1000000 in
theorem hStp_ok1 (g a h : Nat) (V : List Int) (cx cy high : Int) (d : Nat) (w : World) (R : GRd w g a h V) (hG : Rd w (some ⟨0, 0, none⟩) (vi .i64 (pr dX dY 8))) (hc : hC a h cx cy high = 0) (hd : d < 8) (hm : 0 < (ms a h cx cy (dX d) (dY d))) :
    Ret Tryd.prog 11 [.pointer (some ⟨g, 0, none⟩), .agg #[.int .i64 cx, .int .i64 cy], .int .i64 high, .int .i64 (d : Int)] w (fun z w' => z = .tuple #[.agg #[.int .i64 ((hU V a h cx cy (dX d) (dY d) (gatV V a h cx cy + high)) (bst (hU V a h cx cy (dX d) (dY d) (gatV V a h cx cy + high)) (ms a h cx cy (dX d) (dY d)))), .int .i64 (hO (bst (hU V a h cx cy (dX d) (dY d) (gatV V a h cx cy + high)) (ms a h cx cy (dX d) (dY d))))], .agg #[.int .i64 (hX cx (dX d) (bst (hU V a h cx cy (dX d) (dY d) (gatV V a h cx cy + high)) (ms a h cx cy (dX d) (dY d)))), .int .i64 (hX cy (dY d) (bst (hU V a h cx cy (dX d) (dY d) (gatV V a h cx cy + high)) (ms a h cx cy (dX d) (dY d))))], .bool true, .int .i64 0] ∧ Below w.heap.size w w') := by
 have hgv := R.gv
 have hgs := hgv.sz
 have hi := (inB_w (x := cx) (y := cy) hgs).2 (hC_w hc)
 have hh := hC_h hc
 have hgb := gatV_B32 (a := a) (h := h) (x := cx) (y := cy) hgv.bd
 have hmb := (ms_spec hgs (okD hd) hi).2.2
 have gg0 := pr_at0 (f := dX) (g := dY) hd
 have gg1 := pr_at (f := dX) (g := dY) hd
 have hub := hU_bd (a := a) (h := h) (cx := cx) (cy := cy) (dx := dX d) (dy := dY d) (e := (gatV V a h cx cy + high)) hgv.bd (by omega) (ms a h cx cy (dX d) (dY d))
 have hbl := bst_lt (U := (hU V a h cx cy (dX d) (dY d) (gatV V a h cx cy + high))) hm
 have gs0 := pr_at0 (f := (hU V a h cx cy (dX d) (dY d) (gatV V a h cx cy + high))) (g := hO) hbl
 have gs1 := pr_at (f := (hU V a h cx cy (dX d) (dY d) (gatV V a h cx cy + high))) (g := hO) hbl
 have gc0 := pr_at0 (f := (hX cx (dX d))) (g := (hX cy (dY d))) hbl
 have gc1 := pr_at (f := (hX cx (dX d))) (g := (hX cy (dY d))) hbl
 refine ret_enter Tryd.func11 rfl rfl rfl ?_
 have H0 := HS.start w
 refine cw_seq ?_
 refine cw_reg ?_
 refine reg_op (op_box (cs := [.int _ _, .int _ _]) H0 rfl rfl rfl) rfl rfl ?_
 rintro _ w2 ⟨b1, rfl, H3⟩
 refine reg_op (op_alloc H3 rfl kfhor0_3) rfl rfl ?_
 rintro _ w5 ⟨b4, rfl, H6⟩
 refine reg_op (op_alloc H6 rfl kfhor0_11) rfl rfl ?_
 rintro _ w8 ⟨b7, rfl, H9⟩
 refine ry (y_asg rfl rfl) rfl rfl ?_
 refine ry (y_asg rfl rfl) rfl rfl ?_
 refine reg_nil ?_
 refine fn_next ?_
 refine cw_seq ?_
 refine cw_reg ?_
 refine ry (y_mov rfl rfl) rfl rfl ?_
 refine ry (y_ldb (i := 2) (cs := [_, _]) H9 rfl rfl kfhor0_6 rfl rfl) rfl rfl ?_
 refine ry (y_mov rfl rfl) rfl rfl ?_
 refine reg_op (op_call (hChk_ok g a h (V) cx cy high _ (R.below H9.base) hc) rfl kfhor0_17 ⟨rfl, rfl, rfl, trivial⟩) rfl rfl ?_
 rintro _ w11 ⟨rfl, e10⟩
 have H12 := H9.ext e10
 refine ry (y_mov rfl rfl) rfl rfl ?_
 refine ry (y_ext rfl rfl rfl) rfl rfl ?_
 refine ry (y_ext rfl rfl rfl) rfl rfl ?_
 refine ry (y_asg rfl rfl) rfl rfl ?_
 refine ry (y_asg rfl rfl) rfl rfl ?_
 refine reg_nil ?_
 refine fn_next ?_
 refine cw_seq ?_
 refine cw_seq ?_
 refine cw_reg ?_
 refine ry (y_mov rfl rfl) rfl rfl ?_
 refine ry (y_eql rfl rfl rfl) rfl rfl ?_
 refine ry (y_mov rfl rfl) rfl rfl ?_
 refine rgy (y_mov rfl rfl) rfl rfl rfl rfl ?_
 refine rgy (y_lss rfl rfl rfl) rfl rfl rfl rfl ?_
 refine rgy (y_mov rfl rfl) rfl rfl rfl rfl ?_
 refine rg_splitd (d := 29) rfl (fun h13 => ?_) (fun h13 => ?_)
 · exfalso; omega
 ·skip
  refine rgy (y_mov rfl rfl) rfl rfl rfl rfl ?_
  refine rgy (y_geq rfl rfl rfl) rfl rfl rfl rfl ?_
  refine rgy (y_pick rfl rfl rfl) rfl rfl rfl rfl ?_
  refine ry (y_pick rfl rfl rfl) rfl rfl ?_
  refine reg_nil ?_
  refine fn_next ?_
  refine cw_condd rfl (fun h14 => ?_) (fun h14 => ?_)
  · exfalso; omega
  ·skip
   refine cw_skip ?_
   refine fn_next ?_
   refine cw_seq ?_
   refine cw_seq ?_
   refine cw_reg ?_
   refine ry (y_mov rfl rfl) rfl rfl ?_
   refine ry (y_neq rfl rfl rfl) rfl rfl ?_
   refine reg_nil ?_
   refine fn_next ?_
   refine cw_condf rfl ?_
   refine cw_skip ?_
   refine fn_next ?_
   refine cw_seq ?_
   refine cw_drawT H12 [0, 1, 2, 3, 4, 5] (.step 6 (.step 7 (.alt (.step 8 (.alt (.step 9 (.step 10 (.step 11 (.leaf)))) (.step 10 (.step 9 (.step 11 (.leaf)))))) (.step 9 (.step 8 (.step 10 (.step 11 (.leaf)))))))) (fun X HX => HX) (by kernel_rfl) (by kernel_rfl) (by rfl) ?_
   simp only [pick, List.getElem?_cons_succ, List.getElem?_cons_zero]
   refine hk_y (fun Y HY => y_mov rfl rfl) rfl rfl ?_
   refine hk_y (fun Y HY => y_ldb (i := 2) (cs := [_, _]) HY rfl rfl kfhor0_6 rfl rfl) rfl rfl ?_
   refine hk_y (fun Y HY => y_mov rfl rfl) rfl rfl ?_
   refine hk_y (fun Y HY => y_mov rfl rfl) rfl rfl ?_
   refine hk_y (fun Y HY => y_iag rfl rfl rfl kfhor0_18 (rfl) (by omega) rfl) rfl rfl ?_
   refine hk_y (fun Y HY => y_ldra (cs := [_, _]) ((hG.below HY.base)) rfl rfl kfhor0_6 rfl (by decide) (gg1)) rfl rfl ?_
   refine hkt_nil [14, 15, 39, 46, 47, 48] (fun M wl => ∃ (A1 : Option Addr) (c1 : Nat) (A2 : Option Addr) (c2 : Nat), M = [(14, .slice A1 (ms a h cx cy (dX d) (dY d)) c1), (15, .slice A2 (ms a h cx cy (dX d) (dY d)) c2)] ∧ HS w wl [Ob.row A1 (ms a h cx cy (dX d) (dY d)) c1 (vi .i64 (pr (hX cx (dX d)) (hX cy (dY d)) (ms a h cx cy (dX d) (dY d)))) 24 2, Ob.row A2 (ms a h cx cy (dX d) (dY d)) c2 (vi .i64 (pr (hU V a h cx cy (dX d) (dY d) (gatV V a h cx cy + high)) hO (ms a h cx cy (dX d) (dY d)))) 34 2, Ob.blk b7 [.int .i64 0, .int .i64 0] 24, Ob.blk b4 [.int .i64 0, .int .i64 0] 34]) (fun wX HX => ?_) ?_
   ·skip
    refine tt_op rfl (op_call (hAhead g a h (V) cx cy (gatV V a h cx cy + high) (dX d) (dY d) _ (R.below HX.base) (okD hd) hi (by omega)) rfl kfhor0_19 ⟨rfl, rfl, rfl, rfl, trivial⟩) rfl rfl ?_
    rintro _ w16 ⟨A18, c19, A220, c221, rfl, k15⟩
    have H17 := HX.call k15
    refine ⟨(H17.pick (m := [_, _, _]) [2, 3, 4] rfl (by decide)), fun w22 e24 => ?_⟩
    have H23 := H17.ext e24
    refine tt_op rfl (Yd.op (y_mov rfl rfl)) rfl rfl ?_
    rintro _ _ ⟨rfl, rfl⟩
    refine ⟨(H23.pick (m := [_, _, _]) [2, 3, 4] rfl (by decide)), fun w25 e27 => ?_⟩
    have H26 := H23.ext e27
    refine tt_alt ?_ ?_
    ·skip
     refine tt_op rfl (Yd.op (y_ext rfl rfl rfl)) rfl rfl ?_
     rintro _ _ ⟨rfl, rfl⟩
     refine ⟨(H26.pick (m := [_, _, _]) [2, 3, 4] rfl (by decide)), fun w28 e30 => ?_⟩
     have H29 := H26.ext e30
     refine tt_alt ?_ ?_
     ·skip
      refine tt_op rfl (Yd.op (y_ext rfl rfl rfl)) rfl rfl ?_
      rintro _ _ ⟨rfl, rfl⟩
      refine ⟨(H29.pick (m := [_, _, _]) [2, 3, 4] rfl (by decide)), fun w31 e33 => ?_⟩
      have H32 := H29.ext e33
      refine tt_op rfl (Yd.op (y_asg rfl rfl)) rfl rfl ?_
      rintro _ _ ⟨rfl, rfl⟩
      refine ⟨(H32.pick (m := [_, _, _]) [2, 3, 4] rfl (by decide)), fun w34 e36 => ?_⟩
      have H35 := H32.ext e36
      refine tt_op rfl (Yd.op (y_asg rfl rfl)) rfl rfl ?_
      rintro _ _ ⟨rfl, rfl⟩
      refine ⟨(H35.pick (m := [_, _, _]) [2, 3, 4] rfl (by decide)), fun w37 e39 => ?_⟩
      have H38 := H35.ext e39
      exact tt_leaf ⟨A18, c19, A220, c221, rfl, (H38.pick (m := [_, _, _, _]) [0, 1, 2, 3] rfl (by decide))⟩ ⟨rfl, rfl, trivial⟩ (by repeat (first | exact kp_refl | refine kp_app rfl rfl ?_ | refine kp_cons rfl ?_))
     refine tt_op rfl (Yd.op (y_asg rfl rfl)) rfl rfl ?_
     rintro _ _ ⟨rfl, rfl⟩
     refine ⟨(H29.pick (m := [_, _, _]) [2, 3, 4] rfl (by decide)), fun w40 e42 => ?_⟩
     have H41 := H29.ext e42
     refine tt_op rfl (Yd.op (y_ext rfl rfl rfl)) rfl rfl ?_
     rintro _ _ ⟨rfl, rfl⟩
     refine ⟨(H41.pick (m := [_, _, _]) [2, 3, 4] rfl (by decide)), fun w43 e45 => ?_⟩
     have H44 := H41.ext e45
     refine tt_op rfl (Yd.op (y_asg rfl rfl)) rfl rfl ?_
     rintro _ _ ⟨rfl, rfl⟩
     refine ⟨(H44.pick (m := [_, _, _]) [2, 3, 4] rfl (by decide)), fun w46 e48 => ?_⟩
     have H47 := H44.ext e48
     exact tt_leaf ⟨A18, c19, A220, c221, rfl, (H47.pick (m := [_, _, _, _]) [0, 1, 2, 3] rfl (by decide))⟩ ⟨rfl, rfl, trivial⟩ (by repeat (first | exact kp_refl | refine kp_app rfl rfl ?_ | refine kp_cons rfl ?_))
    refine tt_op rfl (Yd.op (y_ext rfl rfl rfl)) rfl rfl ?_
    rintro _ _ ⟨rfl, rfl⟩
    refine ⟨(H26.pick (m := [_, _, _]) [2, 3, 4] rfl (by decide)), fun w49 e51 => ?_⟩
    have H50 := H26.ext e51
    refine tt_op rfl (Yd.op (y_ext rfl rfl rfl)) rfl rfl ?_
    rintro _ _ ⟨rfl, rfl⟩
    refine ⟨(H50.pick (m := [_, _, _]) [2, 3, 4] rfl (by decide)), fun w52 e54 => ?_⟩
    have H53 := H50.ext e54
    refine tt_op rfl (Yd.op (y_asg rfl rfl)) rfl rfl ?_
    rintro _ _ ⟨rfl, rfl⟩
    refine ⟨(H53.pick (m := [_, _, _]) [2, 3, 4] rfl (by decide)), fun w55 e57 => ?_⟩
    have H56 := H53.ext e57
    refine tt_op rfl (Yd.op (y_asg rfl rfl)) rfl rfl ?_
    rintro _ _ ⟨rfl, rfl⟩
    refine ⟨(H56.pick (m := [_, _, _]) [2, 3, 4] rfl (by decide)), fun w58 e60 => ?_⟩
    have H59 := H56.ext e60
    exact tt_leaf ⟨A18, c19, A220, c221, rfl, (H59.pick (m := [_, _, _, _]) [0, 1, 2, 3] rfl (by decide))⟩ ⟨rfl, rfl, trivial⟩ (by repeat (first | exact kp_refl | refine kp_app rfl rfl ?_ | refine kp_cons rfl ?_))
   ·skip
    rintro M w62 ⟨A1, c1, A2, c2, rfl, H61⟩
    refine fn_next ?_
    refine cw_seq ?_
    refine cw_reg ?_
    refine ry (y_mov rfl rfl) rfl rfl ?_
    refine reg_op (op_call (sStp _ (ms a h cx cy (dX d) (dY d)) _ (hU V a h cx cy (dX d) (dY d) (gatV V a h cx cy + high)) _ (H61.rd (i := 1) rfl) hm (by omega) hub) rfl kfhor0_20 ⟨rfl, trivial⟩) rfl rfl ?_
    rintro _ w64 ⟨rfl, e63⟩
    have H65 := H61.ext e63
    refine ry (y_mov rfl rfl) rfl rfl ?_
    refine ry (y_ext rfl rfl rfl) rfl rfl ?_
    refine ry (y_ext rfl rfl rfl) rfl rfl ?_
    refine ry (y_asg rfl rfl) rfl rfl ?_
    refine ry (y_asg rfl rfl) rfl rfl ?_
    refine reg_nil ?_
    refine fn_next ?_
    refine cw_seq ?_
    refine cw_seq ?_
    refine cw_reg ?_
    refine ry (y_mov rfl rfl) rfl rfl ?_
    refine ry (y_neq rfl rfl rfl) rfl rfl ?_
    refine reg_nil ?_
    refine fn_next ?_
    refine cw_condf rfl ?_
    refine cw_skip ?_
    refine fn_next ?_
    refine cw_seq ?_
    refine cw_draw H65 [0, 1, 2, 3, 4, 5, 6, 7] [8, 9, 10, 11] (fun X HX => (HX.pick (m := [_, _]) [0, 1] rfl (by decide))) (by kernel_rfl) (by kernel_rfl) (by rfl) ?_
    simp only [pick, List.getElem?_cons_succ, List.getElem?_cons_zero]
    refine hk_y (fun Y HY => y_mov rfl rfl) rfl rfl ?_
    refine hk_y (fun Y HY => y_mov rfl rfl) rfl rfl ?_
    refine hk_y (fun Y HY => y_iar (HY.rd (i := 1) rfl) rfl rfl rfl kfhor0_1 (rfl) (by omega) (rfl) (gs0)) rfl rfl ?_
    refine hk_y (fun Y HY => y_ldra (cs := [_, _]) (HY.rd (i := 1) rfl) rfl rfl kfhor0_2 rfl (by decide) (gs1)) rfl rfl ?_
    refine hk_y (fun Y HY => y_mov rfl rfl) rfl rfl ?_
    refine hk_y (fun Y HY => y_mov rfl rfl) rfl rfl ?_
    refine hk_y (fun Y HY => y_iar (HY.rd (i := 0) rfl) rfl rfl rfl kfhor0_21 (rfl) (by omega) (rfl) (gc0)) rfl rfl ?_
    refine hk_y (fun Y HY => y_ldra (cs := [_, _]) (HY.rd (i := 0) rfl) rfl rfl kfhor0_6 rfl (by decide) (gc1)) rfl rfl ?_
    refine hk_nil ?_
    intro w66 H67
    refine tv_op (op_st (i := 3) (vs := [.int _ _, .int _ _]) H67 rfl rfl rfl rfl rfl kfhor0_4 rfl rfl rfl) rfl rfl ?_
    rintro _ w68 H69
    refine ⟨(H69.pick (m := [_, _]) [0, 1] rfl (by decide)), fun w70 e72 => ?_⟩
    have H71 := H69.ext e72
    refine tv_op (op_st (i := 2) (vs := [.int _ _, .int _ _]) H71 rfl rfl rfl rfl rfl kfhor0_12 rfl rfl rfl) rfl rfl ?_
    rintro _ w73 H74
    refine ⟨(H74.pick (m := [_, _]) [0, 1] rfl (by decide)), fun w75 e77 => ?_⟩
    have H76 := H74.ext e77
    refine tv_op (Yd.op (y_asg rfl rfl)) rfl rfl ?_
    rintro _ _ ⟨rfl, rfl⟩
    refine ⟨(H76.pick (m := [_, _]) [0, 1] rfl (by decide)), fun w78 e80 => ?_⟩
    have H79 := H76.ext e80
    refine tv_op (Yd.op (y_asg rfl rfl)) rfl rfl ?_
    rintro _ _ ⟨rfl, rfl⟩
    refine ⟨(H79.pick (m := [_, _]) [0, 1] rfl (by decide)), fun w81 e83 => ?_⟩
    have H82 := H79.ext e83
    refine tv_nil ?_
    refine fn_next ?_
    refine cw_ret ?_
    refine fn_retn (vs := [_, _, _, _]) rfl ⟨⟨_, rfl, load_agg (cs := [_, _]) kfhor0_2 rfl fun j v hv => by rw [Nat.zero_add]; exact H82.cell (i := 3) rfl hv⟩, ⟨_, rfl, load_agg (cs := [_, _]) kfhor0_6 rfl fun j v hv => by rw [Nat.zero_add]; exact H82.cell (i := 2) rfl hv⟩, rfl, rfl, trivial⟩ rfl ?_
    exact ⟨rfl, H82.base⟩

theorem hSteep (g a h : Nat) (V : List Int) (cx cy high : Int) (d : Nat) (w : World) (R : GRd w g a h V) (hG : Rd w (some ⟨0, 0, none⟩) (vi .i64 (pr dX dY 8))) (hc : hC a h cx cy high = 0) (hd : d < 8) : Ret Tryd.prog 11 [.pointer (some ⟨g, 0, none⟩), .agg #[.int .i64 cx, .int .i64 cy], .int .i64 high, .int .i64 (d : Int)] w (fun z w' => z = hV (hS V a h cx cy high d) ∧ Below w.heap.size w w') := by
  by_cases e : (ms a h cx cy (dX d) (dY d)) = 0
  · have := hStp_ok0 g a h V cx cy high d w R hG hc hd e
    refine ret_v this ?_
    unfold hS; simp only [e, if_pos]; rfl
  · have := hStp_ok1 g a h V cx cy high d w R hG hc hd (by omega)
    refine ret_v this ?_
    unfold hS; simp only [e, if_false]; rfl
theorem hStp_no (g a h : Nat) (V : List Int) (cx cy high dir : Int) (w : World) (R : GRd w g a h V) (he : ¬ hE a h cx cy high dir = 0) : Ret Tryd.prog 11 [.pointer (some ⟨g, 0, none⟩), .agg #[.int .i64 cx, .int .i64 cy], .int .i64 high, .int .i64 dir] w (fun z w' => z = .tuple #[.agg #[.int .i64 0, .int .i64 0], .agg #[.int .i64 0, .int .i64 0], .bool false, .int .i64 (hE a h cx cy high dir)] ∧ Below w.heap.size w w') := by
  unfold hE at he ⊢
  by_cases c : hC a h cx cy high = 0
  · rw [if_pos c] at he ⊢
    by_cases q : dir < 0 ∨ dir ≥ 8
    · rw [if_pos q]; exact hStp_no1 g a h V cx cy high dir w R c q
    · rw [if_neg q] at he; exact absurd rfl he
  · rw [if_neg c]; exact hStp_no0 g a h V cx cy high dir w R c

set_option maxRecDepth 100000 in
theorem hNil_check (cx cy high : Int) (w : World) :
    Ret Tryd.prog 29 [.pointer none, .agg #[.int .i64 cx, .int .i64 cy], .int .i64 high] w (fun z w' => z = .tuple #[.int .i64 0, .int .i64 1] ∧ Below w.heap.size w w') := by
 refine ret_enter Tryd.func29 rfl rfl rfl ?_
 have H0 := HS.start w
 refine cw_seq ?_
 refine cw_reg ?_
 refine reg_op (op_box (cs := [.int _ _, .int _ _]) H0 rfl rfl rfl) rfl rfl ?_
 rintro _ w2 ⟨b1, rfl, H3⟩
 refine ry (y_asg rfl rfl) rfl rfl ?_
 refine ry (y_asg rfl rfl) rfl rfl ?_
 refine reg_nil ?_
 refine fn_next ?_
 refine cw_seq ?_
 refine cw_reg ?_
 refine ry (y_mov rfl rfl) rfl rfl ?_
 refine ry (y_ldb (i := 0) (cs := [_, _]) H3 rfl rfl kfhor0_6 rfl rfl) rfl rfl ?_
 refine reg_op (op_call (gNil_At _ _ _) rfl kfhor0_7 ⟨rfl, rfl, trivial⟩) rfl rfl ?_
 rintro _ w5 ⟨rfl, e4⟩
 have H6 := H3.ext e4
 refine ry (y_mov rfl rfl) rfl rfl ?_
 refine ry (y_ext rfl rfl rfl) rfl rfl ?_
 refine ry (y_ext rfl rfl rfl) rfl rfl ?_
 refine ry (y_asg rfl rfl) rfl rfl ?_
 refine ry (y_asg rfl rfl) rfl rfl ?_
 refine reg_nil ?_
 refine fn_next ?_
 refine cw_seq ?_
 refine cw_block ?_
 refine cw_seq ?_
 refine cw_reg ?_
 refine ry (y_mov rfl rfl) rfl rfl ?_
 refine ry (y_neq rfl rfl rfl) rfl rfl ?_
 refine ry (y_asg rfl rfl) rfl rfl ?_
 refine reg_nil ?_
 refine fn_next ?_
 refine cw_condt rfl ?_
 refine cw_seq ?_
 refine cw_reg ?_
 refine ry (y_mov rfl rfl) rfl rfl ?_
 refine ry (y_asg rfl rfl) rfl rfl ?_
 refine ry (y_asg rfl rfl) rfl rfl ?_
 refine reg_nil ?_
 refine fn_next ?_
 refine cw_ret ?_
 refine fn_block_ret (fn_then_ret ?_)
 refine fn_retn (vs := [_, _]) rfl ⟨rfl, rfl, trivial⟩ rfl ?_
 exact ⟨rfl, H6.base⟩

set_option maxRecDepth 100000 in
theorem hNil_Steepest (cx cy high dir : Int) (w : World) :
    Ret Tryd.prog 11 [.pointer none, .agg #[.int .i64 cx, .int .i64 cy], .int .i64 high, .int .i64 dir] w (fun z w' => z = .tuple #[.agg #[.int .i64 0, .int .i64 0], .agg #[.int .i64 0, .int .i64 0], .bool false, .int .i64 (1)] ∧ Below w.heap.size w w') := by
 refine ret_enter Tryd.func11 rfl rfl rfl ?_
 have H0 := HS.start w
 refine cw_seq ?_
 refine cw_reg ?_
 refine reg_op (op_box (cs := [.int _ _, .int _ _]) H0 rfl rfl rfl) rfl rfl ?_
 rintro _ w2 ⟨b1, rfl, H3⟩
 refine reg_op (op_alloc H3 rfl kfhor0_3) rfl rfl ?_
 rintro _ w5 ⟨b4, rfl, H6⟩
 refine reg_op (op_alloc H6 rfl kfhor0_11) rfl rfl ?_
 rintro _ w8 ⟨b7, rfl, H9⟩
 refine ry (y_asg rfl rfl) rfl rfl ?_
 refine ry (y_asg rfl rfl) rfl rfl ?_
 refine reg_nil ?_
 refine fn_next ?_
 refine cw_seq ?_
 refine cw_reg ?_
 refine ry (y_mov rfl rfl) rfl rfl ?_
 refine ry (y_ldb (i := 2) (cs := [_, _]) H9 rfl rfl kfhor0_6 rfl rfl) rfl rfl ?_
 refine ry (y_mov rfl rfl) rfl rfl ?_
 refine reg_op (op_call (hNil_check cx cy high _) rfl kfhor0_17 ⟨rfl, rfl, rfl, trivial⟩) rfl rfl ?_
 rintro _ w11 ⟨rfl, e10⟩
 have H12 := H9.ext e10
 refine ry (y_mov rfl rfl) rfl rfl ?_
 refine ry (y_ext rfl rfl rfl) rfl rfl ?_
 refine ry (y_ext rfl rfl rfl) rfl rfl ?_
 refine ry (y_asg rfl rfl) rfl rfl ?_
 refine ry (y_asg rfl rfl) rfl rfl ?_
 refine reg_nil ?_
 refine fn_next ?_
 refine cw_seq ?_
 refine cw_seq ?_
 refine cw_reg ?_
 refine ry (y_mov rfl rfl) rfl rfl ?_
 refine ry (y_eql rfl rfl rfl) rfl rfl ?_
 refine ry (y_mov rfl rfl) rfl rfl ?_
 refine rg_off rfl rfl rfl rfl rfl ?_
 refine rg_off rfl rfl rfl rfl rfl ?_
 refine rg_off rfl rfl rfl rfl rfl ?_
 refine rg_offu rfl rfl rfl rfl ?_
 refine rg_offu rfl rfl rfl rfl ?_
 refine rg_off rfl rfl rfl rfl rfl ?_
 refine ry (y_pick rfl rfl rfl) rfl rfl ?_
 refine reg_nil ?_
 refine fn_next ?_
 refine cw_condf rfl ?_
 refine cw_skip ?_
 refine fn_next ?_
 refine cw_seq ?_
 refine cw_seq ?_
 refine cw_reg ?_
 refine ry (y_mov rfl rfl) rfl rfl ?_
 refine ry (y_neq rfl rfl rfl) rfl rfl ?_
 refine reg_nil ?_
 refine fn_next ?_
 refine cw_condt rfl ?_
 refine cw_seq ?_
 refine cw_reg ?_
 refine ry (y_build (places := [(0, 1), (1, 1)]) (parts := []) (vs := []) (cs := [.int _ _, .int _ _]) rfl Tryd.underlying34 (by kernel_rfl) kfhor0_3 rfl trivial rfl) rfl rfl ?_
 refine ry (y_build (places := [(0, 1), (1, 1)]) (parts := []) (vs := []) (cs := [.int _ _, .int _ _]) rfl Tryd.underlying24 (by kernel_rfl) kfhor0_11 rfl trivial rfl) rfl rfl ?_
 refine ry (y_mov rfl rfl) rfl rfl ?_
 refine reg_op (op_st (i := 1) (vs := [.int _ _, .int _ _]) H12 rfl rfl rfl rfl rfl kfhor0_4 rfl rfl rfl) rfl rfl ?_
 rintro _ w13 H14
 refine reg_op (op_st (i := 0) (vs := [.int _ _, .int _ _]) H14 rfl rfl rfl rfl rfl kfhor0_12 rfl rfl rfl) rfl rfl ?_
 rintro _ w15 H16
 refine ry (y_asg rfl rfl) rfl rfl ?_
 refine ry (y_asg rfl rfl) rfl rfl ?_
 refine reg_nil ?_
 refine fn_next ?_
 refine cw_ret ?_
 refine fn_then_ret ?_
 refine fn_retn (vs := [_, _, _, _]) rfl ⟨⟨_, rfl, load_agg (cs := [_, _]) kfhor0_2 rfl fun j v hv => by rw [Nat.zero_add]; exact H16.cell (i := 1) rfl hv⟩, ⟨_, rfl, load_agg (cs := [_, _]) kfhor0_6 rfl fun j v hv => by rw [Nat.zero_add]; exact H16.cell (i := 0) rfl hv⟩, rfl, rfl, trivial⟩ rfl ?_
 exact ⟨rfl, H16.base⟩

set_option maxRecDepth 100000 in
theorem hNil_Around (cx cy high : Int) (w : World) :
    Ret Tryd.prog 14 [.pointer none, .agg #[.int .i64 cx, .int .i64 cy], .int .i64 high] w (fun z w' => z = .tuple #[.slice none 0 0, .int .i64 1] ∧ Below w.heap.size w w') := by
 refine ret_enter Tryd.func14 rfl rfl rfl ?_
 have H0 := HS.start w
 refine cw_seq ?_
 refine cw_reg ?_
 refine reg_op (op_box (cs := [.int _ _, .int _ _]) H0 rfl rfl rfl) rfl rfl ?_
 rintro _ w2 ⟨b1, rfl, H3⟩
 refine ry (y_asg rfl rfl) rfl rfl ?_
 refine ry (y_asg rfl rfl) rfl rfl ?_
 refine reg_nil ?_
 refine fn_next ?_
 refine cw_seq ?_
 refine cw_seq ?_
 refine cw_reg ?_
 refine ry (y_mov rfl rfl) rfl rfl ?_
 refine ry (y_ldb (i := 0) (cs := [_, _]) H3 rfl rfl kfhor0_6 rfl rfl) rfl rfl ?_
 refine ry (y_mov rfl rfl) rfl rfl ?_
 refine reg_op (op_call (hNil_check cx cy high _) rfl kfhor0_17 ⟨rfl, rfl, rfl, trivial⟩) rfl rfl ?_
 rintro _ w5 ⟨rfl, e4⟩
 have H6 := H3.ext e4
 refine ry (y_mov rfl rfl) rfl rfl ?_
 refine ry (y_ext rfl rfl rfl) rfl rfl ?_
 refine ry (y_ext rfl rfl rfl) rfl rfl ?_
 refine ry (y_asg rfl rfl) rfl rfl ?_
 refine ry (y_asg rfl rfl) rfl rfl ?_
 refine reg_nil ?_
 refine fn_next ?_
 refine cw_seq ?_
 refine cw_reg ?_
 refine ry (y_mov rfl rfl) rfl rfl ?_
 refine ry (y_neq rfl rfl rfl) rfl rfl ?_
 refine reg_nil ?_
 refine fn_next ?_
 refine cw_condt rfl ?_
 refine cw_seq ?_
 refine cw_reg ?_
 refine ry (y_mov rfl rfl) rfl rfl ?_
 refine ry (y_asg rfl rfl) rfl rfl ?_
 refine ry (y_asg rfl rfl) rfl rfl ?_
 refine reg_nil ?_
 refine fn_next ?_
 refine cw_ret ?_
 refine fn_then_ret ?_
 refine fn_retn (vs := [_, _]) rfl ⟨rfl, rfl, trivial⟩ rfl ?_
 exact ⟨rfl, H6.base⟩

set_option maxRecDepth 100000 in
theorem hNil_Open (cx cy high : Int) (w : World) :
    Ret Tryd.prog 15 [.pointer none, .agg #[.int .i64 cx, .int .i64 cy], .int .i64 high] w (fun z w' => z = .tuple #[.int .i64 0, .int .i64 1] ∧ Below w.heap.size w w') := by
 refine ret_enter Tryd.func15 rfl rfl rfl ?_
 have H0 := HS.start w
 refine cw_seq ?_
 refine cw_reg ?_
 refine reg_op (op_box (cs := [.int _ _, .int _ _]) H0 rfl rfl rfl) rfl rfl ?_
 rintro _ w2 ⟨b1, rfl, H3⟩
 refine ry (y_asg rfl rfl) rfl rfl ?_
 refine ry (y_asg rfl rfl) rfl rfl ?_
 refine reg_nil ?_
 refine fn_next ?_
 refine cw_seq ?_
 refine cw_reg ?_
 refine ry (y_mov rfl rfl) rfl rfl ?_
 refine ry (y_ldb (i := 0) (cs := [_, _]) H3 rfl rfl kfhor0_6 rfl rfl) rfl rfl ?_
 refine ry (y_mov rfl rfl) rfl rfl ?_
 refine reg_op (op_call (hNil_Around cx cy high _) rfl kfhor0_22 ⟨rfl, rfl, rfl, trivial⟩) rfl rfl ?_
 rintro _ w5 ⟨rfl, e4⟩
 have H6 := H3.ext e4
 refine ry (y_mov rfl rfl) rfl rfl ?_
 refine ry (y_ext rfl rfl rfl) rfl rfl ?_
 refine ry (y_ext rfl rfl rfl) rfl rfl ?_
 refine ry (y_asg rfl rfl) rfl rfl ?_
 refine ry (y_asg rfl rfl) rfl rfl ?_
 refine reg_nil ?_
 refine fn_next ?_
 refine cw_seq ?_
 refine cw_reg ?_
 refine ry (y_asg rfl rfl) rfl rfl ?_
 refine reg_nil ?_
 refine fn_next ?_
 refine cw_seq ?_
 refine cw_seq ?_
 refine cw_reg ?_
 refine ry (y_mov rfl rfl) rfl rfl ?_
 refine ry (y_len rfl Tryd.underlying43 rfl) rfl rfl ?_
 refine ry (y_mov rfl rfl) rfl rfl ?_
 refine reg_nil ?_
 refine fn_next ?_
 refine cw_block ?_
 refine cw_loopR 1 ?_
 refine cw_seq ?_
 refine cw_reg ?_
 refine ry (y_lss rfl rfl rfl) rfl rfl ?_
 refine reg_nil ?_
 refine fn_next ?_
 refine cw_seq ?_
 refine cw_condf rfl ?_
 refine cw_exit ?_
 refine fn_then_exit (fn_then_exit (fn_block_exit ?_))
 refine fn_next ?_
 refine cw_seq ?_
 refine cw_reg ?_
 refine ry (y_mov rfl rfl) rfl rfl ?_
 refine ry (y_mov rfl rfl) rfl rfl ?_
 refine ry (y_asg rfl rfl) rfl rfl ?_
 refine ry (y_asg rfl rfl) rfl rfl ?_
 refine reg_nil ?_
 refine fn_next ?_
 refine cw_ret ?_
 refine fn_retn (vs := [_, _]) rfl ⟨rfl, rfl, trivial⟩ rfl ?_
 exact ⟨rfl, H6.base⟩

end Go.Proofs.YtgkkbeomhkggjaaDoor
