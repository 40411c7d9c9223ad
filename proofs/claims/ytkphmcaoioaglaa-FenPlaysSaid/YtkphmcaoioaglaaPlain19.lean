/- Layer 19 without the program: lowest set bits, sums of rectangles, partial sums. -/
import Derived.Test.YtkphmcaoioaglaaRef9b
set_option linter.unusedVariables false
set_option linter.unusedSimpArgs false
namespace Go.Proofs.Ytkphmcaoioaglaa
open Go Go.RowKit

/-! the lowest set bit -/
def lbF : Nat → Nat → Nat
  | 0, _ => 0
  | f + 1, n => if n % 2 = 1 then 1 else 2 * lbF f (n / 2)
theorem lbF_bd : ∀ (f n : Nat), 0 < n → n < 2 ^ f → 1 ≤ lbF f n ∧ lbF f n ≤ n
  | 0, n, h0, h1 => by simp at h1; omega
  | f + 1, n, h0, h1 => by
    unfold lbF
    split
    · omega
    · have := lbF_bd f (n / 2) (by omega) (by rw [Nat.pow_succ] at h1; omega)
      omega
theorem lbF_cov : ∀ (f n x : Nat), 0 < n → 0 < x → n < 2 ^ f → x < 2 ^ f → ((x - lbF f x < n ∧ n ≤ x) ↔ (n = x ∨ (x - lbF f x < n + lbF f n ∧ n + lbF f n ≤ x)))
  | 0, n, x, h0, _, h1, _ => by simp at h1; omega
  | f + 1, n, x, h0, hx, h1, h2 => by
    rw [Nat.pow_succ] at h1 h2
    have bx := lbF_bd f (x / 2)
    have bn := lbF_bd f (n / 2)
    have ih := lbF_cov f (n / 2) (x / 2)
    unfold lbF
    by_cases px : x % 2 = 1
    · rw [if_pos px]
      by_cases pn : n % 2 = 1
      · rw [if_pos pn]; omega
      · rw [if_neg pn]
        have := bn (by omega) (by omega)
        omega
    · rw [if_neg px]
      have b1 := bx (by omega) (by omega)
      by_cases pn : n % 2 = 1
      · rw [if_pos pn]; omega
      · rw [if_neg pn]
        have b2 := bn (by omega) (by omega)
        have := ih (by omega) (by omega) (by omega) (by omega)
        omega
def lb (n : Nat) : Nat := lbF 11 n
theorem lb_bd {n : Nat} (h0 : 0 < n) (h1 : n < 2048) : 1 ≤ lb n ∧ lb n ≤ n := lbF_bd 11 n h0 h1
/-- is the cell n (from 1 on) in the partial sum at x? -/
def cov (n x : Nat) : Prop := x - lb x < n ∧ n ≤ x
instance (n x : Nat) : Decidable (cov n x) := by unfold cov; infer_instance
theorem cov_step {n x : Nat} (h0 : 0 < n) (hx : 0 < x) (h1 : n < 2048) (h2 : x < 2048) : cov n x ↔ (n = x ∨ cov (n + lb n) x) := lbF_cov 11 n x h0 hx h1 h2
theorem bits_up : ∀ n : Nat, n < 1025 → IntKind.i64.wrap (BitVec.ofInt IntKind.i64.bits (n : Int) &&& BitVec.ofInt IntKind.i64.bits (-(n : Int))).toNat = ((lb n : Nat) : Int) := by decide +kernel
theorem bits_dn : ∀ n : Nat, n < 1025 → 0 < n → IntKind.i64.wrap (BitVec.ofInt IntKind.i64.bits (n : Int) &&& BitVec.ofInt IntKind.i64.bits ((n : Int) - 1)).toNat = ((n - lb n : Nat) : Int) := by decide +kernel
/-! sums -/
def pS (g : Nat → Int) : Nat → Int
  | 0 => 0
  | n + 1 => pS g n + g n
theorem pS_congr {g g' : Nat → Int} : ∀ {n : Nat}, (∀ i, i < n → g i = g' i) → pS g n = pS g' n
  | 0, _ => rfl
  | n + 1, h => by unfold pS; rw [pS_congr fun i hi => h i (by omega), h n (by omega)]
theorem pS_bd {g : Nat → Int} {B : Nat} : ∀ {n : Nat}, (∀ i, i < n → -(B : Int) ≤ g i ∧ g i ≤ B) → -((n * B : Nat) : Int) ≤ pS g n ∧ pS g n ≤ ((n * B : Nat) : Int)
  | 0, _ => by simp [pS]
  | n + 1, h => by
    have h1 := pS_bd (g := g) (B := B) (n := n) fun i hi => h i (by omega)
    have h2 := h n (by omega)
    rw [Nat.succ_mul]
    simp only [pS]
    omega
/-- g with d more at c -/
theorem pS_up {g : Nat → Int} {c : Nat} {d : Int} : ∀ {n : Nat}, pS (fun i => if i = c then g i + d else g i) n = pS g n + if c < n then d else 0
  | 0 => by simp [pS]
  | n + 1 => by
    unfold pS
    rw [pS_up]
    by_cases h : n = c
    · subst h; simp; omega
    · rw [if_neg h]
      by_cases h2 : c < n
      · rw [if_pos h2, if_pos (by omega)]; omega
      · rw [if_neg h2, if_neg (by omega)]; omega
def cellV (V : List Int) (a i j : Nat) : Int := nth V (j * a + i)
/-- the sum of the first x columns and y rows -/
def p2 (V : List Int) (a x y : Nat) : Int := pS (fun j => pS (fun i => cellV V a i j) x) y
def rS (V : List Int) (a x0 x1 y0 y1 : Nat) : Int := p2 V a x1 y1 - p2 V a x0 y1 - p2 V a x1 y0 + p2 V a x0 y0
theorem p2_x0 {V : List Int} {a : Nat} : ∀ {y : Nat}, p2 V a 0 y = 0
  | 0 => rfl
  | y + 1 => by
    have h := p2_x0 (V := V) (a := a) (y := y)
    unfold p2 at *
    simp only [pS] at *
    omega
theorem p2_y0 {V : List Int} {a x : Nat} : p2 V a x 0 = 0 := rfl
theorem p2_y1 {V : List Int} {a x y : Nat} : p2 V a x (y + 1) = p2 V a x y + pS (fun i => cellV V a i y) x := rfl
theorem rS_cell {V : List Int} {a x y : Nat} : rS V a x (x + 1) y (y + 1) = cellV V a x y := by
  unfold rS
  rw [p2_y1, p2_y1]
  simp only [pS]
  omega
def B40 (V : List Int) : Prop := ∀ z ∈ V, -1099511627776 ≤ z ∧ z ≤ 1099511627776
theorem cellV_bd {V : List Int} {a h i j : Nat} (hb : B40 V) (hl : V.length = a * h) (hi : i < a) (hj : j < h) : -1099511627776 ≤ cellV V a i j ∧ cellV V a i j ≤ 1099511627776 :=
  hb _ (nth_mem (by rw [hl]; exact cell_lt hi hj))
theorem p2_bd {V : List Int} {a h x y : Nat} (hb : B40 V) (hl : V.length = a * h) (hx : x ≤ a) (hy : y ≤ h) (hm : a * h ≤ 1000) : -1099511627776000 ≤ p2 V a x y ∧ p2 V a x y ≤ 1099511627776000 := by
  have h1 : ∀ j, j < y → -((x * 1099511627776 : Nat) : Int) ≤ pS (fun i => cellV V a i j) x ∧ pS (fun i => cellV V a i j) x ≤ ((x * 1099511627776 : Nat) : Int) := fun j hj => pS_bd fun i hi => cellV_bd hb hl (by omega) (by omega)
  have h2 := pS_bd (g := fun j => pS (fun i => cellV V a i j) x) (B := x * 1099511627776) (n := y) h1
  have h3 : y * (x * 1099511627776) ≤ 1000 * 1099511627776 := by
    rw [← Nat.mul_assoc]
    refine Nat.mul_le_mul_right _ (Nat.le_trans (Nat.mul_le_mul hy hx) ?_)
    rw [Nat.mul_comm]; exact hm
  unfold p2
  omega
/-! a cell gets more -/
def addV (V : List Int) (a x y : Nat) (d : Int) : List Int := V.set (y * a + x) (nth V (y * a + x) + d)
theorem addV_len {V : List Int} {a x y : Nat} {d : Int} : (addV V a x y d).length = V.length := by simp [addV]
theorem nth_set {V : List Int} {i j : Nat} {v : Int} (h : i < V.length) : nth (V.set i v) j = if j = i then v else nth V j := by
  unfold nth
  simp only [List.getD_eq_getElem?_getD, List.getElem?_set]
  by_cases e : i = j
  · subst e; simp [h]
  · rw [if_neg e, if_neg (fun k => e k.symm)]
theorem addV_cell {V : List Int} {a h x y i j : Nat} {d : Int} (hl : V.length = a * h) (hx : x < a) (hy : y < h) (hi : i < a) : cellV (addV V a x y d) a i j = if i = x ∧ j = y then cellV V a i j + d else cellV V a i j := by
  unfold cellV addV
  rw [nth_set (by rw [hl]; exact cell_lt hx hy)]
  have : j * a + i = y * a + x ↔ (i = x ∧ j = y) := by
    constructor
    · intro h
      have h1 := div_of hi h.symm
      have h2 := div_of hx (rfl : y * a + x = _)
      omega
    · rintro ⟨rfl, rfl⟩; rfl
  by_cases e : i = x ∧ j = y
  · rw [if_pos (this.2 e), if_pos e]; obtain ⟨rfl, rfl⟩ := e; rfl
  · rw [if_neg (fun k => e (this.1 k)), if_neg e]
theorem addV_p2 {V : List Int} {a h x y X Y : Nat} {d : Int} (hl : V.length = a * h) (hx : x < a) (hy : y < h) (hX : X ≤ a) : p2 (addV V a x y d) a X Y = p2 V a X Y + if x < X ∧ y < Y then d else 0 := by
  have h1 : ∀ j, pS (fun i => cellV (addV V a x y d) a i j) X = if j = y then pS (fun i => cellV V a i j) X + (if x < X then d else 0) else pS (fun i => cellV V a i j) X := fun j => by
    rw [pS_congr (g' := fun i => if i = x ∧ j = y then cellV V a i j + d else cellV V a i j) fun i hi => addV_cell hl hx hy (by omega)]
    by_cases e : j = y
    · subst e
      rw [if_pos rfl, ← pS_up]
      exact pS_congr fun i _ => by simp
    · rw [if_neg e]
      exact pS_congr fun i _ => by simp [e]
  unfold p2
  rw [pS_congr fun j _ => h1 j, pS_up]
  by_cases h2 : x < X
  · by_cases h3 : y < Y
    · simp [h2, h3]
    · simp [h3]
  · simp [h2]
/-- the partial sum at X, Y -/
def tS (V : List Int) (a X Y : Nat) : Int := rS V a (X - lb X) X (Y - lb Y) Y
theorem addV_tS {V : List Int} {a h x y X Y : Nat} {d : Int} (hl : V.length = a * h) (hx : x < a) (hy : y < h) (hX : X ≤ a) : tS (addV V a x y d) a X Y = tS V a X Y + if cov (x + 1) X ∧ cov (y + 1) Y then d else 0 := by
  unfold tS rS
  rw [addV_p2 hl hx hy hX, addV_p2 hl hx hy (by omega), addV_p2 hl hx hy hX, addV_p2 hl hx hy (by omega)]
  have e1 : cov (x + 1) X ↔ (x < X ∧ ¬ x < X - lb X) := by unfold cov; omega
  have e2 : cov (y + 1) Y ↔ (y < Y ∧ ¬ y < Y - lb Y) := by unfold cov; omega
  simp only [e1, e2]
  by_cases c1 : x < X <;> by_cases c2 : y < Y <;> by_cases c3 : x < X - lb X <;> by_cases c4 : y < Y - lb Y <;> simp [c1, c2, c3, c4] <;> omega
/-! the list of partial sums -/
def pl (a X Y : Nat) : Nat := Y * (a + 1) + X
theorem pl_lt {a h X Y : Nat} (hX : X ≤ a) (hY : Y ≤ h) : pl a X Y < (a + 1) * (h + 1) := cell_lt (a := a + 1) (h := h + 1) (by omega) (by omega)
theorem pl_eq {a X Y X' Y' : Nat} (hX : X ≤ a) (hX' : X' ≤ a) : pl a X Y = pl a X' Y' ↔ X = X' ∧ Y = Y' := by
  unfold pl
  constructor
  · intro h
    have h1 := div_of (a := a + 1) (by omega) h
    have h2 := div_of (a := a + 1) (x := X) (y := Y) (by omega) rfl
    have h3 := div_of (a := a + 1) (x := X') (y := Y') (by omega) rfl
    omega
  · rintro ⟨rfl, rfl⟩; rfl
structure FenI (a h : Nat) (V U : List Int) : Prop where
  len : U.length = (a + 1) * (h + 1)
  at_ : ∀ X Y, 1 ≤ X → X ≤ a → 1 ≤ Y → Y ≤ h → nth U (pl a X Y) = tS V a X Y
/-! what is visited -/
def cvb (n x : Nat) : Bool := decide (cov n x)
def vs (n y Y : Nat) : Bool := cvb n Y && !cvb y Y
theorem cov_self {y : Nat} (h0 : 0 < y) (h1 : y < 2048) : cov y y := by
  have := lb_bd h0 h1
  unfold cov; omega
/-- the way up from y lies in that from n -/
def Sub (n y : Nat) : Prop := ∀ Y, 0 < Y → Y < 2048 → cov y Y → cov n Y
theorem Sub.refl {n : Nat} : Sub n n := fun _ _ _ h => h
theorem Sub.step {n y : Nat} (h : Sub n y) (h0 : 0 < y) (h1 : y < 2048) : Sub n (y + lb y) := fun Y a b c => h Y a b ((cov_step h0 a h1 b).2 (.inr c))
theorem vs_start {n Y : Nat} : vs n n Y = false := by unfold vs; cases cvb n Y <;> rfl
theorem vs_step {n y Y : Nat} (h : Sub n y) (h0 : 0 < y) (h1 : y < 2048) (hY : 0 < Y) (hY2 : Y < 2048) : vs n (y + lb y) Y = (vs n y Y || decide (Y = y)) := by
  have k := cov_step h0 hY h1 hY2
  have hl := lb_bd h0 h1
  have hn := h y h0 h1 (cov_self h0 h1)
  by_cases e : Y = y
  · subst e
    have h2 : ¬ cov (Y + lb Y) Y := by unfold cov; omega
    unfold vs cvb
    simp [h2, hn]
  · have h3 : cov (y + lb y) Y ↔ cov y Y := by
      rw [k]
      constructor
      · exact .inr
      · rintro (h4 | h4)
        · exact absurd h4.symm e
        · exact h4
    unfold vs cvb
    simp only [h3, e, decide_false, Bool.or_false]
theorem vs_end {n y Y : Nat} (h : Y < y) : vs n y Y = cvb n Y := by
  have : ¬ cov y Y := by unfold cov; omega
  unfold vs cvb; simp [this]
theorem vs_no {n y : Nat} (h0 : 0 < y) (h1 : y < 2048) : vs n y y = false := by
  unfold vs cvb
  simp [cov_self h0 h1]
/-- while it is added to: the sums that have it already are those of P -/
def FenJ (a h : Nat) (V U : List Int) (d : Int) (P : Nat → Nat → Bool) : Prop :=
  U.length = (a + 1) * (h + 1) ∧ ∀ X Y, 1 ≤ X → X ≤ a → 1 ≤ Y → Y ≤ h → nth U (pl a X Y) = tS V a X Y + if P X Y = true then d else 0
/-- rows ahead of y; in row y the columns ahead of x -/
def pO (n m y : Nat) (X Y : Nat) : Bool := cvb n X && vs m y Y
def pI (n m y x : Nat) (X Y : Nat) : Bool := pO n m y X Y || (decide (Y = y) && vs n x X)
theorem FenJ.congr {a h : Nat} {V U : List Int} {d : Int} {P P' : Nat → Nat → Bool} (J : FenJ a h V U d P) (hp : ∀ X Y, 1 ≤ X → X ≤ a → 1 ≤ Y → Y ≤ h → P X Y = P' X Y) : FenJ a h V U d P' :=
  ⟨J.1, fun X Y h1 h2 h3 h4 => by rw [← hp X Y h1 h2 h3 h4]; exact J.2 X Y h1 h2 h3 h4⟩
theorem FenJ.start {a h : Nat} {V U : List Int} {d : Int} {n m : Nat} (F : FenI a h V U) : FenJ a h V U d (pO n m m) :=
  ⟨F.len, fun X Y h1 h2 h3 h4 => by rw [F.at_ X Y h1 h2 h3 h4]; unfold pO; rw [vs_start]; simp⟩
theorem FenJ.row {a h : Nat} {V U : List Int} {d : Int} {n m y : Nat} (J : FenJ a h V U d (pO n m y)) : FenJ a h V U d (pI n m y n) :=
  J.congr fun X Y _ _ _ _ => by unfold pI; rw [vs_start]; simp
theorem FenJ.put {a h : Nat} {V U : List Int} {d : Int} {n m y x : Nat} (J : FenJ a h V U d (pI n m y x)) (ha : a ≤ 1024) (hh : h ≤ 1024) (hx : 1 ≤ x) (hxa : x ≤ a) (hy : 1 ≤ y) (hyh : y ≤ h) (hn : Sub n x) :
    nth U (pl a x y) = tS V a x y ∧ FenJ a h V (U.set (pl a x y) (tS V a x y + d)) d (pI n m y (x + lb x)) := by
  have h0 : pI n m y x x y = false := by
    unfold pI pO
    rw [vs_no (n := m) (by omega) (by omega), vs_no (n := n) (y := x) (by omega) (by omega)]
    simp
  have h1 := J.2 x y hx hxa hy hyh
  rw [h0] at h1
  refine ⟨by simpa using h1, by rw [List.length_set]; exact J.1, fun X Y a1 a2 a3 a4 => ?_⟩
  rw [nth_set (by rw [J.1]; exact pl_lt hxa hyh), J.2 X Y a1 a2 a3 a4]
  simp only [pl_eq a2 hxa]
  have hs := vs_step (Y := X) hn (by omega) (by omega) (by omega) (by omega)
  unfold pI
  rw [hs]
  by_cases e : X = x ∧ Y = y
  · obtain ⟨rfl, rfl⟩ := e
    simp
  · rw [if_neg e]
    by_cases e1 : Y = y
    · have : X ≠ x := fun k => e ⟨k, e1⟩
      simp [e1, this]
    · simp [e1]
theorem FenJ.rowEnd {a h : Nat} {V U : List Int} {d : Int} {n m y x : Nat} (J : FenJ a h V U d (pI n m y x)) (hh : h ≤ 1024) (hx : a < x) (hy : 1 ≤ y) (hyh : y ≤ h) (hm : Sub m y) : FenJ a h V U d (pO n m (y + lb y)) :=
  J.congr fun X Y _ h2 h3 h4 => by
    unfold pI pO
    rw [vs_end (n := n) (show X < x by omega), vs_step hm (by omega) (by omega) (by omega) (by omega)]
    cases cvb n X <;> simp
theorem FenJ.done {a h : Nat} {V U : List Int} {d : Int} {x y Y : Nat} (J : FenJ a h V U d (pO (x + 1) (y + 1) Y)) (hl : V.length = a * h) (hx : x < a) (hy : y < h) (hY : h < Y) : FenI a h (addV V a x y d) U :=
  ⟨J.1, fun X Z h1 h2 h3 h4 => by
    rw [J.2 X Z h1 h2 h3 h4, addV_tS hl hx hy h2]
    unfold pO
    rw [vs_end (n := y + 1) (show Z < Y by omega)]
    unfold cvb
    by_cases c1 : cov (x + 1) X <;> by_cases c2 : cov (y + 1) Z <;> simp [c1, c2]⟩
/-! what Sum and Add give -/
def fsumV (V : List Int) (a h : Nat) (x0 y0 x1 y1 : Int) : Int := if withinC x0 y0 x1 y1 a h = 0 then rS V a x0.toNat (x1.toNat + 1) y0.toNat (y1.toNat + 1) else 0
theorem fsumV_no {V : List Int} {a h : Nat} {x0 y0 x1 y1 : Int} (hw : ¬ withinC x0 y0 x1 y1 a h = 0) : fsumV V a h x0 y0 x1 y1 = 0 := if_neg hw
theorem fsumV_ok {V : List Int} {a h p0 q0 p1 q1 : Nat} (hw : withinC p0 q0 p1 q1 a h = 0) : fsumV V a h p0 q0 p1 q1 = rS V a p0 (p1 + 1) q0 (q1 + 1) := if_pos hw
theorem fsumV_cell {V : List Int} {a h : Nat} {x y : Int} (s : SzG a h) : fsumV V a h x y x y = gatV V a h x y := by
  by_cases hw : withinC x y x y a h = 0
  · obtain ⟨p, q, _, _, rfl, rfl, _, _, _, _, _, _⟩ := within_natG s hw
    rw [fsumV_ok hw, gatV_ok hw, rS_cell]; rfl
  · rw [fsumV_no hw, gatV_no hw]
def faddC (V : List Int) (a h : Nat) (x y d : Int) : Int := if withinC x y x y a h = 0 then (if d > 1099511627776 - gatV V a h x y ∨ d < -1099511627776 - gatV V a h x y then 7 else 0) else withinC x y x y a h
def faddV (V : List Int) (a h : Nat) (x y d : Int) : List Int := if faddC V a h x y d = 0 then addV V a x.toNat y.toNat d else V
theorem faddV_len {V : List Int} {a h : Nat} {x y d : Int} : (faddV V a h x y d).length = V.length := by unfold faddV; split <;> simp [addV_len]
theorem faddC_w {V : List Int} {a h : Nat} {x y d : Int} (hw : ¬ withinC x y x y a h = 0) : faddC V a h x y d = withinC x y x y a h := if_neg hw
theorem faddC_v {V : List Int} {a h : Nat} {x y d : Int} (hw : withinC x y x y a h = 0) (hd : d > 1099511627776 - gatV V a h x y ∨ d < -1099511627776 - gatV V a h x y) : faddC V a h x y d = 7 := by unfold faddC; rw [if_pos hw, if_pos hd]
theorem faddC_ok {V : List Int} {a h : Nat} {x y d : Int} (hw : withinC x y x y a h = 0) (hd : ¬ (d > 1099511627776 - gatV V a h x y ∨ d < -1099511627776 - gatV V a h x y)) : faddC V a h x y d = 0 := by unfold faddC; rw [if_pos hw, if_neg hd]
theorem faddV_no {V : List Int} {a h : Nat} {x y d : Int} (hc : ¬ faddC V a h x y d = 0) : faddV V a h x y d = V := if_neg hc
theorem faddV_ok {V : List Int} {a h x y : Nat} {d : Int} (hc : faddC V a h x y d = 0) : faddV V a h x y d = addV V a x y d := if_pos hc
theorem gatV_bd {V : List Int} {a h : Nat} {x y : Int} (s : SzG a h) (hl : V.length = a * h) (hb : B40 V) : -1099511627776 ≤ gatV V a h x y ∧ gatV V a h x y ≤ 1099511627776 := by
  by_cases hw : withinC x y x y a h = 0
  · obtain ⟨p, q, _, _, rfl, rfl, _, _, _, _, _, _⟩ := within_natG s hw
    rw [gatV_ok hw]
    exact cellV_bd hb hl (by omega) (by omega)
  · rw [gatV_no hw]; omega
theorem faddV_bd {V : List Int} {a h : Nat} {x y d : Int} (s : SzG a h) (hl : V.length = a * h) (hb : B40 V) : B40 (faddV V a h x y d) := by
  by_cases hc : faddC V a h x y d = 0
  · have hw : withinC x y x y a h = 0 := Classical.byContradiction fun hw => hw (by rw [faddC_w hw] at hc; exact hc)
    have hd : ¬ (d > 1099511627776 - gatV V a h x y ∨ d < -1099511627776 - gatV V a h x y) := fun hd => by rw [faddC_v hw hd] at hc; cases hc
    obtain ⟨p, q, _, _, rfl, rfl, _, _, _, _, _, _⟩ := within_natG s hw
    rw [gatV_ok hw] at hd
    rw [faddV_ok hc]
    intro z hz
    unfold addV at hz
    rcases List.mem_or_eq_of_mem_set hz with h1 | h1
    · exact hb z h1
    · omega
  · rw [faddV_no hc]; exact hb
theorem fenI_new {a h n : Nat} (hn : n = a * h) : FenI a h (List.replicate n 0) (List.replicate ((a + 1) * (h + 1)) 0) := by
  have hz : ∀ x y, p2 (List.replicate n 0) a x y = 0 := fun x y => by
    have h1 : ∀ i j, cellV (List.replicate n 0) a i j = 0 := fun i j => by
      unfold cellV nth
      rw [List.getD_eq_getElem?_getD, List.getElem?_replicate]
      split <;> rfl
    have h2 : ∀ (g : Nat → Int) (k : Nat), (∀ i, g i = 0) → pS g k = 0 := fun g k hg => by
      induction k with
      | zero => rfl
      | succ k ih => unfold pS; rw [ih, hg]; rfl
    unfold p2
    exact h2 _ _ fun j => h2 _ _ fun i => h1 i j
  refine ⟨by simp, fun X Y h1 h2 h3 h4 => ?_⟩
  rw [nth_rep (pl_lt h2 h4)]
  unfold tS rS
  rw [hz, hz, hz, hz]; rfl
end Go.Proofs.Ytkphmcaoioaglaa
