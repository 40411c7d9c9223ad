/- Layer 8 without the program: what a slab's cells are, and what filling makes of them. -/
import Derived.Test.YtkphmcaoioaglaaSlab0
import Derived.Test.YtkphmcaoioaglaaRect1
import Derived.Test.YtkphmcaoioaglaaRect3
set_option linter.unusedVariables false
set_option linter.unusedSimpArgs false
namespace Go.Proofs.Ytkphmcaoioaglaa
open Go Go.RowKit

/-- what the cells are: one value, or one for each -/
inductive Ld where
  | flat (v : Int)
  | rough (A : Option Addr) (cap : Nat) (V : List Int)
def Ld.lst (n : Nat) : Ld → List Int
  | .flat v => List.replicate n v
  | .rough _ _ V => V
def Ld.val (n : Nat) : Ld → Value
  | .flat v => .iface 120 (.int .i32 v)
  | .rough A cap _ => .iface 129 (.slice A n cap)
def Ld.ob (n : Nat) : Ld → Ob
  | .flat _ => .row none 0 0 [] 21 1
  | .rough A cap V => .row A n cap (vi .i32 V) 21 1
def Ld.rd (w : World) : Ld → Prop
  | .flat _ => True
  | .rough A _ V => Rd w A (vi .i32 V)
def B32 (v : Int) : Prop := -2147483648 ≤ v ∧ v ≤ 2147483647
instance (v : Int) : Decidable (B32 v) := by unfold B32; infer_instance
def AllB (V : List Int) : Prop := ∀ x ∈ V, B32 x
/-- well kept -/
def Ld.ok (n : Nat) : Ld → Prop
  | .flat v => B32 v
  | .rough _ _ V => V.length = n ∧ AllB V ∧ ∃ j, j < n ∧ nth V j ≠ nth V 0
theorem Ld.rd_of {w0 w : World} {l : List Ob} {i n : Nat} {L : Ld} (h : HS w0 w l) (hi : l[i]? = some (L.ob n)) : L.rd w := by
  cases L with
  | flat v => trivial
  | rough A cap V => exact h.rd hi
theorem Ld.rd_below {w w' : World} {L : Ld} (h : L.rd w) (hb : Below w.heap.size w w') : L.rd w' := by
  cases L with
  | flat v => trivial
  | rough A cap V => exact Rd.below h hb
theorem Ld.len {n : Nat} {L : Ld} (h : L.ok n) : (L.lst n).length = n := by
  cases L with
  | flat v => simp [Ld.lst]
  | rough A cap V => exact h.1
theorem Ld.bd {n : Nat} {L : Ld} (h : L.ok n) : AllB (L.lst n) := by
  cases L with
  | flat v => intro x hx; rw [(List.mem_replicate.1 hx).2]; exact h
  | rough A cap V => exact h.2.1
theorem nth_rep {n j : Nat} {v : Int} (h : j < n) : nth (List.replicate n v) j = v := by simp [nth, List.getD, h]
theorem AllB.at_ {V : List Int} (h : AllB V) {j : Nat} (hj : j < V.length) : B32 (nth V j) := h _ (nth_mem hj)
theorem allB_rep {n : Nat} {v : Int} (h : B32 v) : AllB (List.replicate n v) := fun x hx => by rw [(List.mem_replicate.1 hx).2]; exact h
theorem rep_of {V : List Int} {n : Nat} {v : Int} (hl : V.length = n) (h : ∀ j, j < n → nth V j = v) : V = List.replicate n v :=
  nth_ext (by simpa using hl) fun j hj => by rw [nth_rep (by omega)]; exact h j (by omega)
/-! the first cell that differs from cell 0 -/
def ixNe (V : List Int) (n : Nat) : Int := match (List.range n).find? (fun j => decide (nth V j ≠ nth V 0)) with | some j => (j : Int) | none => -1
theorem ixNe_at {V : List Int} {n i : Nat} (h : ∀ j, j < i → nth V j = nth V 0) (hi : i < n) (hne : nth V i ≠ nth V 0) : ixNe V n = (i : Int) := by
  have : (List.range n).find? (fun j => decide (nth V j ≠ nth V 0)) = some i := by
    rw [List.find?_range_eq_some]
    refine ⟨by simpa using hne, List.mem_range.2 hi, fun j hj => ?_⟩
    simpa using h j hj
  unfold ixNe; rw [this]
theorem ixNe_no {V : List Int} {n : Nat} (h : ∀ j, j < n → nth V j = nth V 0) : ixNe V n = -1 := by
  have : (List.range n).find? (fun j => decide (nth V j ≠ nth V 0)) = none := by
    rw [List.find?_eq_none]
    intro j hj
    simpa using h j (List.mem_range.1 hj)
  unfold ixNe; rw [this]
theorem ixNe_neg {V : List Int} {n : Nat} (h : ¬ ixNe V n ≥ 0) : ∀ j, j < n → nth V j = nth V 0 := fun j hj => by
  unfold ixNe at h
  split at h
  · omega
  · rename_i hf
    rw [List.find?_eq_none] at hf
    simpa using hf j (List.mem_range.2 hj)
theorem ixNe_pos {V : List Int} {n : Nat} (h : ixNe V n ≥ 0) : ∃ j, j < n ∧ nth V j ≠ nth V 0 := by
  unfold ixNe at h
  split at h
  · rename_i j hf
    exact ⟨j, List.mem_range.1 (List.mem_of_find?_eq_some hf), by simpa using List.find?_some hf⟩
  · omega
/-! least and greatest -/
theorem mnI_le {V : List Int} : ∀ {n j : Nat}, j < n → mnI V n ≤ nth V j
  | 0, _, h => by omega
  | n + 1, j, h => by
    unfold mnI
    by_cases hj : j = n
    · subst hj; omega
    · have := mnI_le (V := V) (n := n) (j := j) (by omega); omega
theorem mxI_ge {V : List Int} : ∀ {n j : Nat}, j < n → nth V j ≤ mxI V n
  | 0, _, h => by omega
  | n + 1, j, h => by
    unfold mxI
    by_cases hj : j = n
    · subst hj; omega
    · have := mxI_ge (V := V) (n := n) (j := j) (by omega); omega
theorem mnI_same {V : List Int} : ∀ {n : Nat}, (∀ j, j < n → nth V j = nth V 0) → mnI V n = nth V 0
  | 0, _ => rfl
  | n + 1, h => by unfold mnI; rw [mnI_same (fun j hj => h j (by omega)), h n (by omega)]; omega
theorem mxI_same {V : List Int} : ∀ {n : Nat}, (∀ j, j < n → nth V j = nth V 0) → mxI V n = nth V 0
  | 0, _ => rfl
  | n + 1, h => by unfold mxI; rw [mxI_same (fun j hj => h j (by omega)), h n (by omega)]; omega
theorem mn_ne_mx {V : List Int} {n j : Nat} (hj : j < n) (h : nth V j ≠ nth V 0) : mnI V n ≠ mxI V n := fun he => by
  have h1 := mnI_le (V := V) (n := n) (j := j) hj
  have h2 := mxI_ge (V := V) (n := n) (j := j) hj
  have h3 := mnI_le (V := V) (n := n) (j := 0) (by omega)
  have h4 := mxI_ge (V := V) (n := n) (j := 0) (by omega)
  omega
theorem mnI_bd {V : List Int} (h : AllB V) : ∀ {n : Nat}, n ≤ V.length → 0 < V.length → B32 (mnI V n)
  | 0, _, h0 => h.at_ h0
  | n + 1, hn, h0 => by have h1 := mnI_bd h (n := n) (by omega) h0; have h2 := h.at_ (j := n) (by omega); rw [show mnI V (n + 1) = min (mnI V n) (nth V n) from rfl]; unfold B32 at *; omega
theorem mxI_bd {V : List Int} (h : AllB V) : ∀ {n : Nat}, n ≤ V.length → 0 < V.length → B32 (mxI V n)
  | 0, _, h0 => h.at_ h0
  | n + 1, hn, h0 => by have h1 := mxI_bd h (n := n) (by omega) h0; have h2 := h.at_ (j := n) (by omega); rw [show mxI V (n + 1) = max (mxI V n) (nth V n) from rfl]; unfold B32 at *; omega
/-- the one value, if it is one -/
def flS (V : List Int) (n : Nat) : Int × Bool := if mnI V n = mxI V n then (nth V 0, true) else (0, false)
theorem flS_flat {n : Nat} {v : Int} (h : 1 ≤ n) : flS (List.replicate n v) n = (v, true) := by
  unfold flS
  have hs : ∀ j, j < n → nth (List.replicate n v) j = nth (List.replicate n v) 0 := fun j hj => by rw [nth_rep hj, nth_rep h]
  rw [mnI_same hs, mxI_same hs, if_pos rfl, nth_rep h]
theorem flS_rough {n : Nat} {A : Option Addr} {cap : Nat} {V : List Int} (h : (Ld.rough A cap V).ok n) : flS V n = (0, false) := by
  obtain ⟨_, _, j, hj, hne⟩ := h
  unfold flS
  rw [if_neg (mn_ne_mx hj hne)]
theorem mn_flat {n : Nat} {v : Int} (h : 1 ≤ n) : mnI (List.replicate n v) n = v := by
  rw [mnI_same (fun j hj => by rw [nth_rep hj, nth_rep h]), nth_rep h]
theorem mx_flat {n : Nat} {v : Int} (h : 1 ≤ n) : mxI (List.replicate n v) n = v := by
  rw [mxI_same (fun j hj => by rw [nth_rep hj, nth_rep h]), nth_rep h]
/-! filling -/
def inF (a x0 x1 y0 y x i : Nat) : Prop := (y0 ≤ i / a ∧ i / a < y ∧ x0 ≤ i % a ∧ i % a ≤ x1) ∨ (i / a = y ∧ x0 ≤ i % a ∧ i % a < x)
instance (a x0 x1 y0 y x i : Nat) : Decidable (inF a x0 x1 y0 y x i) := by unfold inF; infer_instance
/-- filled up to column x of row y -/
def fl (V : List Int) (a : Nat) (v : Int) (x0 x1 y0 y x : Nat) : List Int := (List.range V.length).map fun i => if inF a x0 x1 y0 y x i then v else nth V i
theorem fl_len {V : List Int} {a : Nat} {v : Int} {x0 x1 y0 y x : Nat} : (fl V a v x0 x1 y0 y x).length = V.length := by simp [fl]
theorem fl_at {V : List Int} {a : Nat} {v : Int} {x0 x1 y0 y x i : Nat} (h : i < V.length) : nth (fl V a v x0 x1 y0 y x) i = if inF a x0 x1 y0 y x i then v else nth V i := by
  unfold fl; simp [nth, List.getD, h]
theorem fl_init {V : List Int} {a : Nat} {v : Int} {x0 x1 y0 : Nat} : fl V a v x0 x1 y0 y0 x0 = V := nth_ext fl_len fun i hi => by
  rw [fl_len] at hi
  rw [fl_at hi, if_neg (by unfold inF; omega)]
theorem fl_row {V : List Int} {a : Nat} {v : Int} {x0 x1 y0 y : Nat} (hy : y0 ≤ y) : fl V a v x0 x1 y0 y (x1 + 1) = fl V a v x0 x1 y0 (y + 1) x0 := nth_ext (by rw [fl_len, fl_len]) fun i hi => by
  rw [fl_len] at hi
  rw [fl_at hi, fl_at hi]
  have : inF a x0 x1 y0 y (x1 + 1) i ↔ inF a x0 x1 y0 (y + 1) x0 i := by unfold inF; omega
  by_cases h : inF a x0 x1 y0 (y + 1) x0 i
  · rw [if_pos h, if_pos (this.2 h)]
  · rw [if_neg h, if_neg (fun k => h (this.1 k))]
theorem div_of {a x y i : Nat} (hx : x < a) (h : i = y * a + x) : i / a = y ∧ i % a = x := by
  subst h
  have ha : 0 < a := by omega
  constructor
  · rw [Nat.mul_comm, Nat.mul_add_div ha, Nat.div_eq_of_lt hx, Nat.add_zero]
  · rw [Nat.mul_comm, Nat.mul_add_mod, Nat.mod_eq_of_lt hx]
theorem of_div {a x y i : Nat} (h1 : i / a = y) (h2 : i % a = x) : i = y * a + x := by
  have := Nat.div_add_mod i a
  rw [h1, h2, Nat.mul_comm] at this; omega
theorem fl_set {V : List Int} {a : Nat} {v : Int} {x0 x1 y0 y x : Nat} (hx : x < a) (hx0 : x0 ≤ x) (hi : y * a + x < V.length) : (fl V a v x0 x1 y0 y x).set (y * a + x) v = fl V a v x0 x1 y0 y (x + 1) := nth_ext (by simp [fl_len]) fun i hl => by
  have hl' : i < V.length := by simpa [fl_len] using hl
  by_cases h : y * a + x = i
  · obtain ⟨h1, h2⟩ := div_of hx h.symm
    subst h
    rw [nth_set_eq (by rw [fl_len]; exact hi), fl_at hl', if_pos (by unfold inF; omega)]
  · rw [nth_set_ne h, fl_at hl', fl_at hl']
    have hn : ¬ (i / a = y ∧ i % a = x) := fun ⟨h1, h2⟩ => h (of_div h1 h2).symm
    have : inF a x0 x1 y0 y x i ↔ inF a x0 x1 y0 y (x + 1) i := by unfold inF; omega
    by_cases h : inF a x0 x1 y0 y x i
    · rw [if_pos h, if_pos (this.1 h)]
    · rw [if_neg h, if_neg (fun k => h (this.2 k))]
theorem fl_bd {V : List Int} {a : Nat} {v : Int} {x0 x1 y0 y x : Nat} (h : AllB V) (hv : B32 v) : AllB (fl V a v x0 x1 y0 y x) := fun u hu => by
  unfold fl at hu
  obtain ⟨i, hi, rfl⟩ := List.mem_map.1 hu
  split
  · exact hv
  · exact h.at_ (List.mem_range.1 hi)
/-- a rectangle filled -/
def fillL (V : List Int) (a : Nat) (x0 y0 x1 y1 : Nat) (v : Int) : List Int := fl V a v x0 x1 y0 (y1 + 1) x0
theorem fillL_same {n a x0 y0 x1 y1 : Nat} {v : Int} : fillL (List.replicate n v) a x0 y0 x1 y1 v = List.replicate n v := nth_ext (by unfold fillL; rw [fl_len]) fun i hi => by
  unfold fillL at *
  rw [fl_len] at hi
  rw [fl_at hi]
  split
  · rw [nth_rep (by simpa using hi)]
  · rfl
theorem fillL_whole {V : List Int} {a h : Nat} {v : Int} (ha : 1 ≤ a) (hl : V.length = a * h) : fillL V a 0 0 (a - 1) (h - 1) v = List.replicate (a * h) v := rep_of (by unfold fillL; rw [fl_len, hl]) fun i hi => by
  unfold fillL
  rw [fl_at (by omega), if_pos]
  have h1 : i / a < h := Nat.div_lt_of_lt_mul hi
  have h2 : i % a < a := Nat.mod_lt _ (by omega)
  unfold inF
  generalize i / a = q at *
  generalize i % a = r at *
  omega
theorem fillL_cell {V : List Int} {a x y i : Nat} {v : Int} (hx : x < a) (hi : i < V.length) : nth (fillL V a x y x y v) i = if i = y * a + x then v else nth V i := by
  unfold fillL
  rw [fl_at hi]
  by_cases h : i = y * a + x
  · obtain ⟨h1, h2⟩ := div_of hx h
    rw [if_pos h, if_pos (by unfold inF; omega)]
  · have hn : ¬ (i / a = y ∧ i % a = x) := fun ⟨h1, h2⟩ => h (of_div h1 h2)
    rw [if_neg h, if_neg (by unfold inF; omega)]
theorem whole_of {a h p q : Nat} (ha : 1 ≤ a) (hh : 1 ≤ h) (hp : p ≤ a) (hq : q ≤ h) (he : p * q = a * h) : p = a ∧ q = h := by
  have h1 : p * q ≤ p * h := Nat.mul_le_mul_left _ hq
  have h2 : p * h ≤ a * h := Nat.mul_le_mul_right _ hp
  have h3 : p = a := Nat.eq_of_mul_eq_mul_right (by omega) (by omega : p * h = a * h)
  subst h3
  exact ⟨rfl, Nat.eq_of_mul_eq_mul_left (by omega) he⟩
/-- a size as the program takes it -/
def sizeP (a h : Nat) : Prop := 1 ≤ a ∧ a ≤ 16 ∧ 1 ≤ h ∧ h ≤ 16
theorem sizeP.mul {a h : Nat} (p : sizeP a h) : 1 ≤ a * h ∧ a * h ≤ 256 := by
  obtain ⟨h1, h2, h3, h4⟩ := p
  exact ⟨Nat.mul_le_mul h1 h3, Nat.mul_le_mul h2 h4⟩
theorem within_nat {a h : Nat} {x0 y0 x1 y1 : Int} (p : sizeP a h) (hw : withinC x0 y0 x1 y1 a h = 0) : ∃ p0 q0 p1 q1 : Nat, x0 = p0 ∧ y0 = q0 ∧ x1 = p1 ∧ y1 = q1 ∧ p0 ≤ p1 ∧ p1 < a ∧ q0 ≤ q1 ∧ q1 < h := by
  obtain ⟨h1, h2, h3, h4⟩ := p
  have := within_zero (by omega) (by omega) (by omega) (by omega) hw
  exact ⟨x0.toNat, y0.toNat, x1.toNat, y1.toNat, by omega, by omega, by omega, by omega, by omega, by omega, by omega, by omega⟩
theorem area_nat {p0 q0 p1 q1 a h : Nat} (p : sizeP a h) (h1 : p0 ≤ p1) (h2 : p1 < a) (h3 : q0 ≤ q1) (h4 : q1 < h) : areaI p0 q0 p1 q1 = (((p1 - p0 + 1) * (q1 - q0 + 1) : Nat) : Int) := by
  obtain ⟨_, _, _, _⟩ := p
  unfold areaI
  rw [if_pos (show RightP p0 q0 p1 q1 from ⟨by omega, by omega, by omega, by omega, by omega, by omega⟩), Int.natCast_mul]
  congr 1 <;> omega
def fillC (a h : Nat) (x0 y0 x1 y1 v : Int) : Int := if withinC x0 y0 x1 y1 a h = 0 then (if B32 v then 0 else 7) else withinC x0 y0 x1 y1 a h
def fillV (V : List Int) (a h : Nat) (x0 y0 x1 y1 v : Int) : List Int := if fillC a h x0 y0 x1 y1 v = 0 then fillL V a x0.toNat y0.toNat x1.toNat y1.toNat v else V
theorem fillC_w {a h : Nat} {x0 y0 x1 y1 v : Int} (hw : ¬ withinC x0 y0 x1 y1 a h = 0) : fillC a h x0 y0 x1 y1 v = withinC x0 y0 x1 y1 a h := by unfold fillC; rw [if_neg hw]
theorem fillC_v {a h : Nat} {x0 y0 x1 y1 v : Int} (hw : withinC x0 y0 x1 y1 a h = 0) (hv : ¬ B32 v) : fillC a h x0 y0 x1 y1 v = 7 := by unfold fillC; rw [if_pos hw, if_neg hv]
theorem fillC_ok {a h : Nat} {x0 y0 x1 y1 v : Int} (hw : withinC x0 y0 x1 y1 a h = 0) (hv : B32 v) : fillC a h x0 y0 x1 y1 v = 0 := by unfold fillC; rw [if_pos hw, if_pos hv]
theorem fillV_w {V : List Int} {a h : Nat} {x0 y0 x1 y1 v : Int} (hw : ¬ withinC x0 y0 x1 y1 a h = 0) : fillV V a h x0 y0 x1 y1 v = V := by unfold fillV; rw [fillC_w hw, if_neg hw]
theorem fillV_v {V : List Int} {a h : Nat} {x0 y0 x1 y1 v : Int} (hw : withinC x0 y0 x1 y1 a h = 0) (hv : ¬ B32 v) : fillV V a h x0 y0 x1 y1 v = V := by unfold fillV; rw [fillC_v hw hv, if_neg (by decide)]
theorem fillV_ok {V : List Int} {a h p0 q0 p1 q1 : Nat} {v : Int} (hw : withinC p0 q0 p1 q1 a h = 0) (hv : B32 v) : fillV V a h p0 q0 p1 q1 v = fillL V a p0 q0 p1 q1 v := by unfold fillV; rw [fillC_ok hw hv, if_pos rfl]; rfl
theorem fillV_len {V : List Int} {a h : Nat} {x0 y0 x1 y1 v : Int} : (fillV V a h x0 y0 x1 y1 v).length = V.length := by
  unfold fillV
  split
  · unfold fillL; exact fl_len
  · rfl
end Go.Proofs.Ytkphmcaoioaglaa
