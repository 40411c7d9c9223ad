/- Layer 9 without the program: pieces of a rectangle, tile by tile; what a grid's cells are. -/
import Derived.Test.YtkphmcaoioaglaaPlain8
import Derived.Test.YtkphmcaoioaglaaPlain7
set_option linter.unusedVariables false
set_option linter.unusedSimpArgs false
namespace Go.Proofs.Ytkphmcaoioaglaa
open Go Go.RowKit

theorem cell_lt' {a h x y : Nat} (hx : x < a) (hy : y < h) : y * a + x < h * a := by
  have : (y + 1) * a ≤ h * a := Nat.mul_le_mul_right _ hy
  rw [Nat.succ_mul] at this; omega
theorem pieceRows_get {r : Rt} {m : Nat} : ∀ (k t : Nat), t < k * m → (pieceRows r m k)[t]? = some (pieceAt r (floorI r.y0 + 16 * ((t / m : Nat) : Int)) (floorI r.x0 + 16 * ((t % m : Nat) : Int)))
  | 0, t, h => by rw [Nat.zero_mul] at h; omega
  | k + 1, t, h => by
    rw [Nat.succ_mul] at h
    unfold pieceRows
    by_cases ht : t < k * m
    · rw [List.getElem?_append_left (by rw [pieceRows_len]; exact ht)]
      exact pieceRows_get k t ht
    · rw [List.getElem?_append_right (by rw [pieceRows_len]; omega), pieceRows_len]
      have hm : 0 < m := by
        rcases Nat.eq_zero_or_pos m with h0 | h0
        · subst h0; omega
        · exact h0
      obtain ⟨j, hj⟩ : ∃ j, t = k * m + j := ⟨t - k * m, by omega⟩
      subst hj
      have h1 : (k * m + j) / m = k := by rw [Nat.mul_comm, Nat.mul_add_div hm, Nat.div_eq_of_lt (by omega), Nat.add_zero]
      have h2 : (k * m + j) % m = j := by rw [Nat.mul_comm, Nat.mul_add_mod, Nat.mod_eq_of_lt (by omega)]
      rw [h1, h2, show k * m + j - k * m = j by omega]
      unfold pieceRow
      rw [List.getElem?_map, List.getElem?_range (by omega)]
      rfl
/-- columns of tiles that a rectangle meets -/
def tcol (p0 p1 : Nat) : Nat := p1 / 16 - p0 / 16 + 1
theorem tilesOf_nat {p0 p1 : Nat} (h : p0 ≤ p1) : tilesOf p0 p1 = tcol p0 p1 := by unfold tilesOf floorI tcol; omega
/-- the number of the piece in which a cell lies -/
def pno (p0 q0 p1 x y : Nat) : Nat := (y / 16 - q0 / 16) * tcol p0 p1 + (x / 16 - p0 / 16)
structure Pc where
  u0 : Nat
  v0 : Nat
  u1 : Nat
  v1 : Nat
def Pc.rt (c : Pc) : Rt := ⟨c.u0, c.v0, c.u1, c.v1⟩
/-- the t-th piece -/
def pcN (p0 q0 p1 q1 t : Nat) : Pc :=
  ⟨max (16 * (p0 / 16 + t % tcol p0 p1)) p0, max (16 * (q0 / 16 + t / tcol p0 p1)) q0, min (16 * (p0 / 16 + t % tcol p0 p1) + 15) p1, min (16 * (q0 / 16 + t / tcol p0 p1) + 15) q1⟩
def pcs (p0 q0 p1 q1 : Nat) : Nat := tcol q0 q1 * tcol p0 p1
theorem right_nat {p0 q0 p1 q1 : Nat} (h1 : p0 ≤ p1) (h2 : p1 < 1024) (h3 : q0 ≤ q1) (h4 : q1 < 1024) : (⟨p0, q0, p1, q1⟩ : Rt).right := ⟨by simp, by simp; omega, by simp; omega, by simp, by simp; omega, by simp; omega⟩
theorem piecesN_len {p0 q0 p1 q1 : Nat} (h1 : p0 ≤ p1) (h2 : p1 < 1024) (h3 : q0 ≤ q1) (h4 : q1 < 1024) : (piecesL ⟨p0, q0, p1, q1⟩).length = pcs p0 q0 p1 q1 := by
  unfold piecesL
  rw [if_pos (right_nat h1 h2 h3 h4), pieceRows_len]
  simp only
  rw [tilesOf_nat h1, tilesOf_nat h3]; rfl
theorem piecesN_get {p0 q0 p1 q1 t : Nat} (h1 : p0 ≤ p1) (h2 : p1 < 1024) (h3 : q0 ≤ q1) (h4 : q1 < 1024) (ht : t < pcs p0 q0 p1 q1) : (piecesL ⟨p0, q0, p1, q1⟩)[t]? = some (pcN p0 q0 p1 q1 t).rt := by
  unfold piecesL
  rw [if_pos (right_nat h1 h2 h3 h4)]
  simp only
  rw [tilesOf_nat h1, tilesOf_nat h3, pieceRows_get _ _ ht]
  unfold pieceAt pcN Pc.rt floorI mx mn
  simp only [Option.some.injEq, Rt.mk.injEq]
  generalize t % tcol p0 p1 = j
  generalize t / tcol p0 p1 = k
  refine ⟨?_, ?_, ?_, ?_⟩ <;> split <;> omega
/-- .. lies in one tile -/
theorem pcN_tile {p0 q0 p1 q1 t : Nat} (h1 : p0 ≤ p1) (h3 : q0 ≤ q1) (ht : t < pcs p0 q0 p1 q1) :
    let c := pcN p0 q0 p1 q1 t
    p0 ≤ c.u0 ∧ c.u0 ≤ c.u1 ∧ c.u1 ≤ p1 ∧ q0 ≤ c.v0 ∧ c.v0 ≤ c.v1 ∧ c.v1 ≤ q1 ∧ c.u0 / 16 = p0 / 16 + t % tcol p0 p1 ∧ c.u1 / 16 = p0 / 16 + t % tcol p0 p1 ∧ c.v0 / 16 = q0 / 16 + t / tcol p0 p1 ∧ c.v1 / 16 = q0 / 16 + t / tcol p0 p1 := by
  have hm : 0 < tcol p0 p1 := by unfold tcol; omega
  have hj : t % tcol p0 p1 < tcol p0 p1 := Nat.mod_lt _ hm
  have hk : t / tcol p0 p1 < tcol q0 q1 := Nat.div_lt_of_lt_mul (by rw [Nat.mul_comm]; exact ht)
  simp only [pcN]
  unfold tcol at *
  generalize t % _ = j at *
  generalize t / _ = k at *
  omega
theorem pcN_has {p0 q0 p1 q1 t x y : Nat} (h1 : p0 ≤ p1) (h3 : q0 ≤ q1) (ht : t < pcs p0 q0 p1 q1) : ((pcN p0 q0 p1 q1 t).u0 ≤ x ∧ x ≤ (pcN p0 q0 p1 q1 t).u1 ∧ (pcN p0 q0 p1 q1 t).v0 ≤ y ∧ y ≤ (pcN p0 q0 p1 q1 t).v1) ↔ (p0 ≤ x ∧ x ≤ p1 ∧ q0 ≤ y ∧ y ≤ q1) ∧ pno p0 q0 p1 x y = t := by
  have hm : 0 < tcol p0 p1 := by unfold tcol; omega
  have hj : t % tcol p0 p1 < tcol p0 p1 := Nat.mod_lt _ hm
  have hd := Nat.div_add_mod t (tcol p0 p1)
  have key : (p0 ≤ x ∧ x ≤ p1 ∧ q0 ≤ y ∧ y ≤ q1) → (pno p0 q0 p1 x y = t ↔ (y / 16 - q0 / 16 = t / tcol p0 p1 ∧ x / 16 - p0 / 16 = t % tcol p0 p1)) := fun hr => by
    have hx : x / 16 - p0 / 16 < tcol p0 p1 := by unfold tcol; omega
    unfold pno
    constructor
    · intro h
      have h2 := div_of hx h.symm
      exact ⟨h2.1.symm, h2.2.symm⟩
    · rintro ⟨e1, e2⟩
      rw [e1, e2, Nat.mul_comm]; omega
  simp only [pcN]
  constructor
  · intro h
    have hr : p0 ≤ x ∧ x ≤ p1 ∧ q0 ≤ y ∧ y ≤ q1 := by omega
    refine ⟨hr, (key hr).2 ?_⟩
    generalize t % _ = j at *
    generalize t / _ = k at *
    omega
  · rintro ⟨hr, h⟩
    have h2 := (key hr).1 h
    generalize t % _ = j at *
    generalize t / _ = k at *
    omega
theorem pno_lt {p0 q0 p1 q1 x y : Nat} (hr : p0 ≤ x ∧ x ≤ p1 ∧ q0 ≤ y ∧ y ≤ q1) : pno p0 q0 p1 x y < pcs p0 q0 p1 q1 := by
  have hx : x / 16 - p0 / 16 < tcol p0 p1 := by unfold tcol; omega
  have hy : y / 16 - q0 / 16 < tcol q0 q1 := by unfold tcol; omega
  have := cell_lt' hx hy
  unfold pno pcs; exact this
/-! a grid's slabs -/
structure Sb where
  b : Nat
  w : Nat
  h : Nat
  L : Ld
instance : Inhabited Sb := ⟨⟨0, 1, 1, .flat 0⟩⟩
def Sb.n (s : Sb) : Nat := s.w * s.h
def Sb.lst (s : Sb) : List Int := s.L.lst (s.w * s.h)
def across (a : Nat) : Nat := (a + 15) / 16
/-- how wide the i-th tile is -/
def tw (a i : Nat) : Nat := min 16 (a - 16 * i)
def gs (xs : List Sb) (t : Nat) : Sb := xs.getD t default
def tno (a x y : Nat) : Nat := y / 16 * across a + x / 16
structure GI (a h : Nat) (xs : List Sb) : Prop where
  a1 : 1 ≤ a
  a2 : a ≤ 1024
  h1 : 1 ≤ h
  h2 : h ≤ 1024
  len : xs.length = across h * across a
  wid : ∀ t, t < xs.length → (gs xs t).w = tw a (t % across a) ∧ (gs xs t).h = tw h (t / across a)
  ok : ∀ t, t < xs.length → (gs xs t).L.ok ((gs xs t).w * (gs xs t).h)
theorem across_pos {a : Nat} (h : 1 ≤ a) : 0 < across a := by unfold across; omega
theorem tno_lt {a h x y : Nat} (hx : x < a) (hy : y < h) : tno a x y < across h * across a := by
  unfold tno
  exact cell_lt' (by unfold across; omega) (by unfold across; omega)
theorem tno_parts {a x y : Nat} (hx : x < a) : tno a x y / across a = y / 16 ∧ tno a x y % across a = x / 16 := div_of (by unfold across; omega) rfl
theorem gs_get {xs : List Sb} {t : Nat} (h : t < xs.length) : xs[t]? = some (gs xs t) := by simp [gs, List.getD, h]
theorem gs_set_eq {xs : List Sb} {t : Nat} {s : Sb} (h : t < xs.length) : gs (xs.set t s) t = s := by simp [gs, List.getD, h]
theorem gs_set_ne {xs : List Sb} {t i : Nat} {s : Sb} (h : t ≠ i) : gs (xs.set t s) i = gs xs i := by simp [gs, List.getD, List.getElem?_set_ne h]
theorem GI.size {a h : Nat} {xs : List Sb} (G : GI a h xs) {t : Nat} (ht : t < xs.length) : sizeP (gs xs t).w (gs xs t).h := by
  obtain ⟨e1, e2⟩ := G.wid t ht
  have ha := G.a1; have hh := G.h1
  have hlt := ht; rw [G.len] at hlt
  have hm : t % across a < across a := Nat.mod_lt _ (across_pos ha)
  have hd : t / across a < across h := Nat.div_lt_of_lt_mul (by rw [Nat.mul_comm]; exact hlt)
  rw [e1, e2]
  unfold sizeP tw across at *
  generalize t % _ = j at *
  generalize t / _ = k at *
  omega
theorem GI.tile {a h : Nat} {xs : List Sb} (G : GI a h xs) {x y : Nat} (hx : x < a) (hy : y < h) : tno a x y < xs.length ∧ x % 16 < (gs xs (tno a x y)).w ∧ y % 16 < (gs xs (tno a x y)).h := by
  have hl : tno a x y < xs.length := by rw [G.len]; exact tno_lt hx hy
  obtain ⟨e1, e2⟩ := G.wid _ hl
  obtain ⟨p1, p2⟩ := tno_parts (y := y) hx
  rw [e1, e2, p1, p2]
  unfold tw
  refine ⟨hl, ?_, ?_⟩ <;> omega
theorem GI.set {a h : Nat} {xs : List Sb} (G : GI a h xs) {t : Nat} {L : Ld} (ht : t < xs.length) (hL : L.ok ((gs xs t).w * (gs xs t).h)) : GI a h (xs.set t { gs xs t with L := L }) := by
  refine ⟨G.a1, G.a2, G.h1, G.h2, by rw [List.length_set]; exact G.len, fun i hi => ?_, fun i hi => ?_⟩
  · rw [List.length_set] at hi
    by_cases h : t = i
    · subst h; rw [gs_set_eq ht]; exact G.wid t ht
    · rw [gs_set_ne h]; exact G.wid i hi
  · rw [List.length_set] at hi
    by_cases h : t = i
    · subst h; rw [gs_set_eq ht]; exact hL
    · rw [gs_set_ne h]; exact G.ok i hi
def gval (xs : List Sb) (a x y : Nat) : Int := nth (gs xs (tno a x y)).lst (y % 16 * (gs xs (tno a x y)).w + x % 16)
theorem gval_fill {a h : Nat} {xs : List Sb} (G : GI a h xs) {t u0 v0 u1 v1 : Nat} {v : Int} {L : Ld} (ht : t < xs.length) (hL : L.lst ((gs xs t).w * (gs xs t).h) = fillL (gs xs t).lst (gs xs t).w u0 v0 u1 v1 v) {x y : Nat} (hx : x < a) (hy : y < h) :
    gval (xs.set t { gs xs t with L := L }) a x y = if tno a x y = t ∧ u0 ≤ x % 16 ∧ x % 16 ≤ u1 ∧ v0 ≤ y % 16 ∧ y % 16 ≤ v1 then v else gval xs a x y := by
  unfold gval
  by_cases h : t = tno a x y
  · subst h
    obtain ⟨_, b1, b2⟩ := G.tile hx hy
    have hll : (gs xs (tno a x y)).lst.length = (gs xs (tno a x y)).w * (gs xs (tno a x y)).h := Ld.len (G.ok _ ht)
    have hid := cell_lt' b1 b2
    obtain ⟨d1, d2⟩ := div_of b1 (rfl : y % 16 * (gs xs (tno a x y)).w + x % 16 = _)
    rw [gs_set_eq ht]
    simp only [Sb.lst] at hll ⊢
    rw [hL]
    unfold fillL
    rw [fl_at (by simp only [Sb.lst]; rw [hll]; exact Nat.lt_of_lt_of_eq hid (Nat.mul_comm _ _))]
    have : inF (gs xs (tno a x y)).w u0 u1 v0 (v1 + 1) u0 (y % 16 * (gs xs (tno a x y)).w + x % 16) ↔ (u0 ≤ x % 16 ∧ x % 16 ≤ u1 ∧ v0 ≤ y % 16 ∧ y % 16 ≤ v1) := by
      unfold inF; rw [d1, d2]; omega
    by_cases hc : u0 ≤ x % 16 ∧ x % 16 ≤ u1 ∧ v0 ≤ y % 16 ∧ y % 16 ≤ v1
    · rw [if_pos (this.2 hc), if_pos ⟨trivial, hc⟩]
    · rw [if_neg (fun k => hc (this.1 k)), if_neg (fun k => hc k.2)]; rfl
  · rw [gs_set_ne h, if_neg (fun k => h k.1.symm)]
/-- the values row by row -/
def gV (xs : List Sb) (a h : Nat) : List Int := (List.range (a * h)).map fun i => gval xs a (i % a) (i / a)
theorem gV_len {xs : List Sb} {a h : Nat} : (gV xs a h).length = a * h := by simp [gV]
theorem gV_at {xs : List Sb} {a h x y : Nat} (hx : x < a) (hy : y < h) : nth (gV xs a h) (y * a + x) = gval xs a x y := by
  obtain ⟨d1, d2⟩ := div_of hx (rfl : y * a + x = _)
  have := cell_lt' hx hy
  unfold gV; simp [nth, List.getD, show y * a + x < a * h by rw [Nat.mul_comm a h]; exact this, d1, d2]
/-- after all pieces -/
theorem gV_filled {xs ys : List Sb} {a h p0 q0 p1 q1 : Nat} {v : Int} (hv : ∀ x y, x < a → y < h → gval ys a x y = if p0 ≤ x ∧ x ≤ p1 ∧ q0 ≤ y ∧ y ≤ q1 then v else gval xs a x y) : gV ys a h = fillL (gV xs a h) a p0 q0 p1 q1 v := nth_ext (by unfold fillL; rw [fl_len, gV_len, gV_len]) fun i hi => by
  rw [gV_len] at hi
  unfold fillL
  rw [fl_at (by rw [gV_len]; exact hi)]
  have ha : 0 < a := by
    rcases Nat.eq_zero_or_pos a with h0 | h0
    · subst h0; omega
    · exact h0
  have hx : i % a < a := Nat.mod_lt _ ha
  have hy := Nat.div_lt_of_lt_mul hi
  have e := of_div (rfl : i / a = _) (rfl : i % a = _)
  have e1 := gV_at (xs := ys) hx hy
  have e2 := gV_at (xs := xs) hx hy
  rw [← e] at e1 e2
  rw [e1, e2, hv _ _ hx hy]
  have : inF a p0 p1 q0 (q1 + 1) p0 i ↔ (p0 ≤ i % a ∧ i % a ≤ p1 ∧ q0 ≤ i / a ∧ i / a ≤ q1) := by
    unfold inF
    generalize i / a = k
    generalize i % a = j
    omega
  by_cases hc : p0 ≤ i % a ∧ i % a ≤ p1 ∧ q0 ≤ i / a ∧ i / a ≤ q1
  · rw [if_pos hc, if_pos (this.2 hc)]
  · rw [if_neg hc, if_neg (fun k => hc (this.1 k))]
end Go.Proofs.Ytkphmcaoioaglaa
