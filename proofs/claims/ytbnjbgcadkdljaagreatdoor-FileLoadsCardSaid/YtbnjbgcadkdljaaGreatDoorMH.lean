/- Texts as one: Plain9, Plain9b, Plain9c, Grid0. -/
import Derived.Test.YtbnjbgcadkdljaaGreatDoorMF
import Derived.Test.YtbnjbgcadkdljaaGreatDoorMD
import Derived.Test.YtbnjbgcadkdljaaGreatDoorSlab2
import Derived.Test.YtbnjbgcadkdljaaGreatDoorMC
set_option linter.unusedVariables false
set_option linter.unusedSimpArgs false
namespace Go.Proofs.YtbnjbgcadkdljaaGreatDoor
open Go Go.RowKit

theorem cell_lt' {a h x y : Nat} (hx : x < a) (hy : y < h) : y * a + x < h * a := by
  have : (y + 1) * a ≤ h * a := Nat.mul_le_mul_right _ hy
  rw [Nat.succ_mul] at this; omega
theorem pieceRows_get {r : Rt} {m : Nat} : ∀ (k t : Nat), t < k * m → (pieceRows r m k)[t]? = some (pieceAt r (floorI r.y0 + 16 * ((t / m : Nat) : Int)) (floorI r.x0 + 16 * ((t % m : Nat) : Int)))
  | 0, t, h => by rw [Nat.zero_mul] at h; omega
  | k + 1, t, h => by
    rw [Nat.succ_mul] at h
    unfold pieceRows
    by_cases ht : t < k * m
    · rw [List.getElem?_append_left (by rw [pieceRows_len]; exact ht)]
      exact pieceRows_get k t ht
    · rw [List.getElem?_append_right (by rw [pieceRows_len]; omega), pieceRows_len]
      have hm : 0 < m := by
        rcases Nat.eq_zero_or_pos m with h0 | h0
        · subst h0; omega
        · exact h0
      obtain ⟨j, hj⟩ : ∃ j, t = k * m + j := ⟨t - k * m, by omega⟩
      subst hj
      have h1 : (k * m + j) / m = k := by rw [Nat.mul_comm, Nat.mul_add_div hm, Nat.div_eq_of_lt (by omega), Nat.add_zero]
      have h2 : (k * m + j) % m = j := by rw [Nat.mul_comm, Nat.mul_add_mod, Nat.mod_eq_of_lt (by omega)]
      rw [h1, h2, show k * m + j - k * m = j by omega]
      unfold pieceRow
      rw [List.getElem?_map, List.getElem?_range (by omega)]
      rfl
/-- columns of tiles that a rectangle meets -/
def tcol (p0 p1 : Nat) : Nat := p1 / 16 - p0 / 16 + 1
theorem tilesOf_nat {p0 p1 : Nat} (h : p0 ≤ p1) : tilesOf p0 p1 = tcol p0 p1 := by unfold tilesOf floorI tcol; omega
/-- the number of the piece in which a cell lies -/
def pno (p0 q0 p1 x y : Nat) : Nat := (y / 16 - q0 / 16) * tcol p0 p1 + (x / 16 - p0 / 16)
structure Pc where
  u0 : Nat
  v0 : Nat
  u1 : Nat
  v1 : Nat
def Pc.rt (c : Pc) : Rt := ⟨c.u0, c.v0, c.u1, c.v1⟩
/-- the t-th piece -/
def pcN (p0 q0 p1 q1 t : Nat) : Pc :=
  ⟨max (16 * (p0 / 16 + t % tcol p0 p1)) p0, max (16 * (q0 / 16 + t / tcol p0 p1)) q0, min (16 * (p0 / 16 + t % tcol p0 p1) + 15) p1, min (16 * (q0 / 16 + t / tcol p0 p1) + 15) q1⟩
def pcs (p0 q0 p1 q1 : Nat) : Nat := tcol q0 q1 * tcol p0 p1
theorem right_nat {p0 q0 p1 q1 : Nat} (h1 : p0 ≤ p1) (h2 : p1 < 1024) (h3 : q0 ≤ q1) (h4 : q1 < 1024) : (⟨p0, q0, p1, q1⟩ : Rt).right := ⟨by simp, by simp; omega, by simp; omega, by simp, by simp; omega, by simp; omega⟩
theorem piecesN_len {p0 q0 p1 q1 : Nat} (h1 : p0 ≤ p1) (h2 : p1 < 1024) (h3 : q0 ≤ q1) (h4 : q1 < 1024) : (piecesL ⟨p0, q0, p1, q1⟩).length = pcs p0 q0 p1 q1 := by
  unfold piecesL
  rw [if_pos (right_nat h1 h2 h3 h4), pieceRows_len]
  simp only
  rw [tilesOf_nat h1, tilesOf_nat h3]; rfl
theorem piecesN_get {p0 q0 p1 q1 t : Nat} (h1 : p0 ≤ p1) (h2 : p1 < 1024) (h3 : q0 ≤ q1) (h4 : q1 < 1024) (ht : t < pcs p0 q0 p1 q1) : (piecesL ⟨p0, q0, p1, q1⟩)[t]? = some (pcN p0 q0 p1 q1 t).rt := by
  unfold piecesL
  rw [if_pos (right_nat h1 h2 h3 h4)]
  simp only
  rw [tilesOf_nat h1, tilesOf_nat h3, pieceRows_get _ _ ht]
  unfold pieceAt pcN Pc.rt floorI mx mn
  simp only [Option.some.injEq, Rt.mk.injEq]
  generalize t % tcol p0 p1 = j
  generalize t / tcol p0 p1 = k
  refine ⟨?_, ?_, ?_, ?_⟩ <;> split <;> omega
/-- .. lies in one tile -/
theorem pcN_tile {p0 q0 p1 q1 t : Nat} (h1 : p0 ≤ p1) (h3 : q0 ≤ q1) (ht : t < pcs p0 q0 p1 q1) :
    let c := pcN p0 q0 p1 q1 t
    p0 ≤ c.u0 ∧ c.u0 ≤ c.u1 ∧ c.u1 ≤ p1 ∧ q0 ≤ c.v0 ∧ c.v0 ≤ c.v1 ∧ c.v1 ≤ q1 ∧ c.u0 / 16 = p0 / 16 + t % tcol p0 p1 ∧ c.u1 / 16 = p0 / 16 + t % tcol p0 p1 ∧ c.v0 / 16 = q0 / 16 + t / tcol p0 p1 ∧ c.v1 / 16 = q0 / 16 + t / tcol p0 p1 := by
  have hm : 0 < tcol p0 p1 := by unfold tcol; omega
  have hj : t % tcol p0 p1 < tcol p0 p1 := Nat.mod_lt _ hm
  have hk : t / tcol p0 p1 < tcol q0 q1 := Nat.div_lt_of_lt_mul (by rw [Nat.mul_comm]; exact ht)
  simp only [pcN]
  unfold tcol at *
  generalize t % _ = j at *
  generalize t / _ = k at *
  omega
theorem pcN_has {p0 q0 p1 q1 t x y : Nat} (h1 : p0 ≤ p1) (h3 : q0 ≤ q1) (ht : t < pcs p0 q0 p1 q1) : ((pcN p0 q0 p1 q1 t).u0 ≤ x ∧ x ≤ (pcN p0 q0 p1 q1 t).u1 ∧ (pcN p0 q0 p1 q1 t).v0 ≤ y ∧ y ≤ (pcN p0 q0 p1 q1 t).v1) ↔ (p0 ≤ x ∧ x ≤ p1 ∧ q0 ≤ y ∧ y ≤ q1) ∧ pno p0 q0 p1 x y = t := by
  have hm : 0 < tcol p0 p1 := by unfold tcol; omega
  have hj : t % tcol p0 p1 < tcol p0 p1 := Nat.mod_lt _ hm
  have hd := Nat.div_add_mod t (tcol p0 p1)
  have key : (p0 ≤ x ∧ x ≤ p1 ∧ q0 ≤ y ∧ y ≤ q1) → (pno p0 q0 p1 x y = t ↔ (y / 16 - q0 / 16 = t / tcol p0 p1 ∧ x / 16 - p0 / 16 = t % tcol p0 p1)) := fun hr => by
    have hx : x / 16 - p0 / 16 < tcol p0 p1 := by unfold tcol; omega
    unfold pno
    constructor
    · intro h
      have h2 := div_of hx h.symm
      exact ⟨h2.1.symm, h2.2.symm⟩
    · rintro ⟨e1, e2⟩
      rw [e1, e2, Nat.mul_comm]; omega
  simp only [pcN]
  constructor
  · intro h
    have hr : p0 ≤ x ∧ x ≤ p1 ∧ q0 ≤ y ∧ y ≤ q1 := by omega
    refine ⟨hr, (key hr).2 ?_⟩
    generalize t % _ = j at *
    generalize t / _ = k at *
    omega
  · rintro ⟨hr, h⟩
    have h2 := (key hr).1 h
    generalize t % _ = j at *
    generalize t / _ = k at *
    omega
theorem pno_lt {p0 q0 p1 q1 x y : Nat} (hr : p0 ≤ x ∧ x ≤ p1 ∧ q0 ≤ y ∧ y ≤ q1) : pno p0 q0 p1 x y < pcs p0 q0 p1 q1 := by
  have hx : x / 16 - p0 / 16 < tcol p0 p1 := by unfold tcol; omega
  have hy : y / 16 - q0 / 16 < tcol q0 q1 := by unfold tcol; omega
  have := cell_lt' hx hy
  unfold pno pcs; exact this
/-! a grid's slabs -/
structure Sb where
  b : Nat
  w : Nat
  h : Nat
  L : Ld
instance : Inhabited Sb := ⟨⟨0, 1, 1, .flat 0⟩⟩
def Sb.n (s : Sb) : Nat := s.w * s.h
def Sb.lst (s : Sb) : List Int := s.L.lst (s.w * s.h)
def across (a : Nat) : Nat := (a + 15) / 16
/-- how wide the i-th tile is -/
def tw (a i : Nat) : Nat := min 16 (a - 16 * i)
def gs (xs : List Sb) (t : Nat) : Sb := xs.getD t default
def tno (a x y : Nat) : Nat := y / 16 * across a + x / 16
structure GI (a h : Nat) (xs : List Sb) : Prop where
  a1 : 1 ≤ a
  a2 : a ≤ 1024
  h1 : 1 ≤ h
  h2 : h ≤ 1024
  len : xs.length = across h * across a
  wid : ∀ t, t < xs.length → (gs xs t).w = tw a (t % across a) ∧ (gs xs t).h = tw h (t / across a)
  ok : ∀ t, t < xs.length → (gs xs t).L.ok ((gs xs t).w * (gs xs t).h)
theorem across_pos {a : Nat} (h : 1 ≤ a) : 0 < across a := by unfold across; omega
theorem tno_lt {a h x y : Nat} (hx : x < a) (hy : y < h) : tno a x y < across h * across a := by
  unfold tno
  exact cell_lt' (by unfold across; omega) (by unfold across; omega)
theorem tno_parts {a x y : Nat} (hx : x < a) : tno a x y / across a = y / 16 ∧ tno a x y % across a = x / 16 := div_of (by unfold across; omega) rfl
theorem gs_get {xs : List Sb} {t : Nat} (h : t < xs.length) : xs[t]? = some (gs xs t) := by simp [gs, List.getD, h]
theorem gs_set_eq {xs : List Sb} {t : Nat} {s : Sb} (h : t < xs.length) : gs (xs.set t s) t = s := by simp [gs, List.getD, h]
theorem gs_set_ne {xs : List Sb} {t i : Nat} {s : Sb} (h : t ≠ i) : gs (xs.set t s) i = gs xs i := by simp [gs, List.getD, List.getElem?_set_ne h]
theorem GI.size {a h : Nat} {xs : List Sb} (G : GI a h xs) {t : Nat} (ht : t < xs.length) : sizeP (gs xs t).w (gs xs t).h := by
  obtain ⟨e1, e2⟩ := G.wid t ht
  have ha := G.a1; have hh := G.h1
  have hlt := ht; rw [G.len] at hlt
  have hm : t % across a < across a := Nat.mod_lt _ (across_pos ha)
  have hd : t / across a < across h := Nat.div_lt_of_lt_mul (by rw [Nat.mul_comm]; exact hlt)
  rw [e1, e2]
  unfold sizeP tw across at *
  generalize t % _ = j at *
  generalize t / _ = k at *
  omega
theorem GI.tile {a h : Nat} {xs : List Sb} (G : GI a h xs) {x y : Nat} (hx : x < a) (hy : y < h) : tno a x y < xs.length ∧ x % 16 < (gs xs (tno a x y)).w ∧ y % 16 < (gs xs (tno a x y)).h := by
  have hl : tno a x y < xs.length := by rw [G.len]; exact tno_lt hx hy
  obtain ⟨e1, e2⟩ := G.wid _ hl
  obtain ⟨p1, p2⟩ := tno_parts (y := y) hx
  rw [e1, e2, p1, p2]
  unfold tw
  refine ⟨hl, ?_, ?_⟩ <;> omega
theorem GI.set {a h : Nat} {xs : List Sb} (G : GI a h xs) {t : Nat} {L : Ld} (ht : t < xs.length) (hL : L.ok ((gs xs t).w * (gs xs t).h)) : GI a h (xs.set t { gs xs t with L := L }) := by
  refine ⟨G.a1, G.a2, G.h1, G.h2, by rw [List.length_set]; exact G.len, fun i hi => ?_, fun i hi => ?_⟩
  · rw [List.length_set] at hi
    by_cases h : t = i
    · subst h; rw [gs_set_eq ht]; exact G.wid t ht
    · rw [gs_set_ne h]; exact G.wid i hi
  · rw [List.length_set] at hi
    by_cases h : t = i
    · subst h; rw [gs_set_eq ht]; exact hL
    · rw [gs_set_ne h]; exact G.ok i hi
def gval (xs : List Sb) (a x y : Nat) : Int := nth (gs xs (tno a x y)).lst (y % 16 * (gs xs (tno a x y)).w + x % 16)
theorem gval_fill {a h : Nat} {xs : List Sb} (G : GI a h xs) {t u0 v0 u1 v1 : Nat} {v : Int} {L : Ld} (ht : t < xs.length) (hL : L.lst ((gs xs t).w * (gs xs t).h) = fillL (gs xs t).lst (gs xs t).w u0 v0 u1 v1 v) {x y : Nat} (hx : x < a) (hy : y < h) :
    gval (xs.set t { gs xs t with L := L }) a x y = if tno a x y = t ∧ u0 ≤ x % 16 ∧ x % 16 ≤ u1 ∧ v0 ≤ y % 16 ∧ y % 16 ≤ v1 then v else gval xs a x y := by
  unfold gval
  by_cases h : t = tno a x y
  · subst h
    obtain ⟨_, b1, b2⟩ := G.tile hx hy
    have hll : (gs xs (tno a x y)).lst.length = (gs xs (tno a x y)).w * (gs xs (tno a x y)).h := Ld.len (G.ok _ ht)
    have hid := cell_lt' b1 b2
    obtain ⟨d1, d2⟩ := div_of b1 (rfl : y % 16 * (gs xs (tno a x y)).w + x % 16 = _)
    rw [gs_set_eq ht]
    simp only [Sb.lst] at hll ⊢
    rw [hL]
    unfold fillL
    rw [fl_at (by simp only [Sb.lst]; rw [hll]; exact Nat.lt_of_lt_of_eq hid (Nat.mul_comm _ _))]
    have : inF (gs xs (tno a x y)).w u0 u1 v0 (v1 + 1) u0 (y % 16 * (gs xs (tno a x y)).w + x % 16) ↔ (u0 ≤ x % 16 ∧ x % 16 ≤ u1 ∧ v0 ≤ y % 16 ∧ y % 16 ≤ v1) := by
      unfold inF; rw [d1, d2]; omega
    by_cases hc : u0 ≤ x % 16 ∧ x % 16 ≤ u1 ∧ v0 ≤ y % 16 ∧ y % 16 ≤ v1
    · rw [if_pos (this.2 hc), if_pos ⟨trivial, hc⟩]
    · rw [if_neg (fun k => hc (this.1 k)), if_neg (fun k => hc k.2)]; rfl
  · rw [gs_set_ne h, if_neg (fun k => h k.1.symm)]
/-- the values row by row -/
def gV (xs : List Sb) (a h : Nat) : List Int := (List.range (a * h)).map fun i => gval xs a (i % a) (i / a)
theorem gV_len {xs : List Sb} {a h : Nat} : (gV xs a h).length = a * h := by simp [gV]
theorem gV_at {xs : List Sb} {a h x y : Nat} (hx : x < a) (hy : y < h) : nth (gV xs a h) (y * a + x) = gval xs a x y := by
  obtain ⟨d1, d2⟩ := div_of hx (rfl : y * a + x = _)
  have := cell_lt' hx hy
  unfold gV; simp [nth, List.getD, show y * a + x < a * h by rw [Nat.mul_comm a h]; exact this, d1, d2]
/-- after all pieces -/
theorem gV_filled {xs ys : List Sb} {a h p0 q0 p1 q1 : Nat} {v : Int} (hv : ∀ x y, x < a → y < h → gval ys a x y = if p0 ≤ x ∧ x ≤ p1 ∧ q0 ≤ y ∧ y ≤ q1 then v else gval xs a x y) : gV ys a h = fillL (gV xs a h) a p0 q0 p1 q1 v := nth_ext (by unfold fillL; rw [fl_len, gV_len, gV_len]) fun i hi => by
  rw [gV_len] at hi
  unfold fillL
  rw [fl_at (by rw [gV_len]; exact hi)]
  have ha : 0 < a := by
    rcases Nat.eq_zero_or_pos a with h0 | h0
    · subst h0; omega
    · exact h0
  have hx : i % a < a := Nat.mod_lt _ ha
  have hy := Nat.div_lt_of_lt_mul hi
  have e := of_div (rfl : i / a = _) (rfl : i % a = _)
  have e1 := gV_at (xs := ys) hx hy
  have e2 := gV_at (xs := xs) hx hy
  rw [← e] at e1 e2
  rw [e1, e2, hv _ _ hx hy]
  have : inF a p0 p1 q0 (q1 + 1) p0 i ↔ (p0 ≤ i % a ∧ i % a ≤ p1 ∧ q0 ≤ i / a ∧ i / a ≤ q1) := by
    unfold inF
    generalize i / a = k
    generalize i % a = j
    omega
  by_cases hc : p0 ≤ i % a ∧ i % a ≤ p1 ∧ q0 ≤ i / a ∧ i / a ≤ q1
  · rw [if_pos hc, if_pos (this.2 hc)]
  · rw [if_neg hc, if_neg (fun k => hc (this.1 k))]
end Go.Proofs.YtbnjbgcadkdljaaGreatDoor

namespace Go.Proofs.YtbnjbgcadkdljaaGreatDoor
open Go Go.RowKit

def rvRow (V : List Int) (a x0 n y : Nat) : List Int := (List.range n).map fun j => nth V (y * a + (x0 + j))
def rvAll (V : List Int) (a x0 y0 n : Nat) : Nat → List Int
  | 0 => []
  | k + 1 => rvAll V a x0 y0 n k ++ rvRow V a x0 n (y0 + k)
theorem rvRow_succ {V : List Int} {a x0 n y : Nat} : rvRow V a x0 (n + 1) y = rvRow V a x0 n y ++ [nth V (y * a + (x0 + n))] := by simp [rvRow, List.range_succ]
theorem rvRow_len {V : List Int} {a x0 n y : Nat} : (rvRow V a x0 n y).length = n := by simp [rvRow]
theorem rvAll_len {V : List Int} {a x0 y0 n : Nat} : ∀ k, (rvAll V a x0 y0 n k).length = k * n
  | 0 => by simp [rvAll]
  | k + 1 => by simp [rvAll, rvAll_len k, rvRow_len, Nat.succ_mul]
theorem rvAll_at {V : List Int} {a x0 y0 n : Nat} : ∀ (k r j : Nat), r < k → j < n → nth (rvAll V a x0 y0 n k) (r * n + j) = nth V ((y0 + r) * a + (x0 + j))
  | 0, r, j, h, _ => by omega
  | k + 1, r, j, h, hj => by
    unfold rvAll
    by_cases hr : r < k
    · have h1 : r * n + j < k * n := by
        have : (r + 1) * n ≤ k * n := Nat.mul_le_mul_right _ hr
        rw [Nat.succ_mul] at this; omega
      rw [nth_app_lt (by rw [rvAll_len]; exact h1)]
      exact rvAll_at k r j hr hj
    · obtain rfl : r = k := by omega
      have e : nth (rvAll V a x0 y0 n r ++ rvRow V a x0 n (y0 + r)) (r * n + j) = nth (rvRow V a x0 n (y0 + r)) j := by
        unfold nth
        rw [List.getD_eq_getElem?_getD, List.getD_eq_getElem?_getD, List.getElem?_append_right (by rw [rvAll_len]; omega), rvAll_len, show r * n + j - r * n = j by omega]
      rw [e]
      unfold rvRow; simp [nth, List.getD, hj]
end Go.Proofs.YtbnjbgcadkdljaaGreatDoor

namespace Go.Proofs.YtbnjbgcadkdljaaGreatDoor
open Go Go.RowKit

theorem tcol_all {a : Nat} (h : 1 ≤ a) : tcol 0 (a - 1) = across a := by unfold tcol across; omega
theorem pcs_all {a h : Nat} (ha : 1 ≤ a) (hh : 1 ≤ h) : pcs 0 0 (a - 1) (h - 1) = across h * across a := by unfold pcs; rw [tcol_all ha, tcol_all hh]
theorem pcN_all {a h t : Nat} (ha : 1 ≤ a) (hh : 1 ≤ h) (ht : t < across h * across a) :
    (pcN 0 0 (a - 1) (h - 1) t).u1 + 1 = (pcN 0 0 (a - 1) (h - 1) t).u0 + tw a (t % across a) ∧ (pcN 0 0 (a - 1) (h - 1) t).v1 + 1 = (pcN 0 0 (a - 1) (h - 1) t).v0 + tw h (t / across a) ∧ 1 ≤ tw a (t % across a) ∧ 1 ≤ tw h (t / across a) ∧ tw a (t % across a) ≤ 16 ∧ tw h (t / across a) ≤ 16 := by
  have hm : t % across a < across a := Nat.mod_lt _ (across_pos ha)
  have hd : t / across a < across h := Nat.div_lt_of_lt_mul (by rw [Nat.mul_comm]; exact ht)
  simp only [pcN]
  rw [tcol_all ha]
  unfold tw across at *
  generalize t % _ = j at *
  generalize t / _ = k at *
  omega
/-- the first t slabs of a new grid -/
structure NI (a h : Nat) (v : Int) (xs : List Sb) (t : Nat) : Prop where
  len : xs.length = t
  all : ∀ i, i < t → (gs xs i).w = tw a (i % across a) ∧ (gs xs i).h = tw h (i / across a) ∧ (gs xs i).L = .flat v
theorem NI.nil {a h : Nat} {v : Int} : NI a h v [] 0 := ⟨rfl, fun i hi => absurd hi (Nat.not_lt_zero _)⟩
theorem gs_app_lt {xs ys : List Sb} {i : Nat} (h : i < xs.length) : gs (xs ++ ys) i = gs xs i := by simp [gs, List.getD, List.getElem?_append_left h]
theorem gs_app_eq {xs : List Sb} {s : Sb} : gs (xs ++ [s]) xs.length = s := by simp [gs, List.getD]
theorem NI.snoc {a h : Nat} {v : Int} {xs : List Sb} {t b : Nat} (H : NI a h v xs t) : NI a h v (xs ++ [⟨b, tw a (t % across a), tw h (t / across a), .flat v⟩]) (t + 1) :=
  ⟨by rw [List.length_append, H.len]; rfl, fun i hi => by
    by_cases h1 : i < t
    · rw [gs_app_lt (by rw [H.len]; exact h1)]; exact H.all i h1
    · have : i = xs.length := by rw [H.len]; omega
      subst this
      rw [gs_app_eq]
      have e := H.len
      subst e
      exact ⟨rfl, rfl, rfl⟩⟩
theorem NI.gi {a h : Nat} {v : Int} {xs : List Sb} (H : NI a h v xs (across h * across a)) (a1 : 1 ≤ a) (a2 : a ≤ 1024) (h1 : 1 ≤ h) (h2 : h ≤ 1024) (hv : B32 v) : GI a h xs :=
  ⟨a1, a2, h1, h2, H.len, fun t ht => by
    obtain ⟨e1, e2, e3⟩ := H.all t (by rw [← H.len]; exact ht)
    exact ⟨e1, e2⟩, fun t ht => by
    obtain ⟨e1, e2, e3⟩ := H.all t (by rw [← H.len]; exact ht)
    rw [e3]; exact hv⟩
theorem NI.gV {a h : Nat} {v : Int} {xs : List Sb} (H : NI a h v xs (across h * across a)) (G : GI a h xs) : gV xs a h = List.replicate (a * h) v := by
  refine rep_of gV_len fun j hj => ?_
  have ha := G.a1
  have hx : j % a < a := Nat.mod_lt _ (by omega)
  have hy : j / a < h := Nat.div_lt_of_lt_mul hj
  have e := of_div (rfl : j / a = _) (rfl : j % a = _)
  rw [e, gV_at hx hy]
  obtain ⟨ht, b1, b2⟩ := G.tile hx hy
  obtain ⟨e1, e2, e3⟩ := H.all _ (by rw [← H.len]; exact ht)
  unfold gval Sb.lst
  rw [e3]
  exact nth_rep (by have := cell_lt' b1 b2; rw [Nat.mul_comm (gs _ _).w]; exact this)
/-! fill -/
theorem tno_eq {a x y u v : Nat} (hx : x < a) (hu : u < a) : tno a x y = tno a u v ↔ x / 16 = u / 16 ∧ y / 16 = v / 16 := by
  obtain ⟨p1, p2⟩ := tno_parts (y := y) hx
  obtain ⟨q1, q2⟩ := tno_parts (y := v) hu
  constructor
  · intro h; rw [h] at p1 p2; exact ⟨by omega, by omega⟩
  · rintro ⟨e1, e2⟩; unfold tno; rw [e1, e2]
/-- the first t pieces are filled -/
def FI (a h : Nat) (xs ys : List Sb) (p0 q0 p1 q1 : Nat) (v : Int) (t : Nat) : Prop :=
  GI a h ys ∧ ys.length = xs.length ∧ (∀ i, (gs ys i).b = (gs xs i).b) ∧ ∀ x y, x < a → y < h → gval ys a x y = if (p0 ≤ x ∧ x ≤ p1 ∧ q0 ≤ y ∧ y ≤ q1) ∧ pno p0 q0 p1 x y < t then v else gval xs a x y
theorem FI.init {a h : Nat} {xs : List Sb} {p0 q0 p1 q1 : Nat} {v : Int} (G : GI a h xs) : FI a h xs xs p0 q0 p1 q1 v 0 :=
  ⟨G, rfl, fun _ => rfl, fun x y _ _ => by rw [if_neg (by omega)]⟩
theorem FI.step {a h : Nat} {xs ys : List Sb} {p0 q0 p1 q1 : Nat} {v : Int} {t : Nat} {L : Ld} (F : FI a h xs ys p0 q0 p1 q1 v t) (h1 : p0 ≤ p1) (h2 : p1 < a) (h3 : q0 ≤ q1) (h4 : q1 < h) (ht : t < pcs p0 q0 p1 q1) (c : Pc) (hc : c = pcN p0 q0 p1 q1 t)
    (hL : L.ok ((gs ys (tno a c.u0 c.v0)).w * (gs ys (tno a c.u0 c.v0)).h))
    (hf : L.lst ((gs ys (tno a c.u0 c.v0)).w * (gs ys (tno a c.u0 c.v0)).h) = fillL (gs ys (tno a c.u0 c.v0)).lst (gs ys (tno a c.u0 c.v0)).w (c.u0 % 16) (c.v0 % 16) (c.u1 % 16) (c.v1 % 16) v) :
    FI a h xs (ys.set (tno a c.u0 c.v0) { gs ys (tno a c.u0 c.v0) with L := L }) p0 q0 p1 q1 v (t + 1) := by
  obtain ⟨G, hl, hb, hv⟩ := F
  obtain ⟨k1, k2, k3, k4, k5, k6, k7, k8, k9, k10⟩ := pcN_tile h1 h3 ht
  rw [← hc] at k1 k2 k3 k4 k5 k6 k7 k8 k9 k10
  have hu : c.u0 < a := by omega
  have hw : c.v0 < h := by omega
  obtain ⟨htl, _, _⟩ := G.tile hu hw
  refine ⟨G.set htl hL, by rw [List.length_set]; exact hl, fun i => ?_, fun x y hx hy => ?_⟩
  · by_cases e : tno a c.u0 c.v0 = i
    · subst e; rw [gs_set_eq htl]; exact hb _
    · rw [gs_set_ne e]; exact hb i
  · rw [gval_fill G htl hf hx hy, hv x y hx hy]
    have key := pcN_has (x := x) (y := y) h1 h3 ht
    rw [← hc] at key
    have e1 : (tno a x y = tno a c.u0 c.v0 ∧ c.u0 % 16 ≤ x % 16 ∧ x % 16 ≤ c.u1 % 16 ∧ c.v0 % 16 ≤ y % 16 ∧ y % 16 ≤ c.v1 % 16) ↔ (c.u0 ≤ x ∧ x ≤ c.u1 ∧ c.v0 ≤ y ∧ y ≤ c.v1) := by
      rw [tno_eq hx hu]; omega
    by_cases hp : pno p0 q0 p1 x y = t
    · by_cases hr : p0 ≤ x ∧ x ≤ p1 ∧ q0 ≤ y ∧ y ≤ q1
      · rw [if_pos (e1.2 (key.2 ⟨hr, hp⟩)), if_pos ⟨hr, by omega⟩]
      · rw [if_neg (fun k => hr (key.1 (e1.1 k)).1), if_neg (fun k => hr k.1), if_neg (fun k => hr k.1)]
    · rw [if_neg (fun k => hp (key.1 (e1.1 k)).2)]
      by_cases hr : (p0 ≤ x ∧ x ≤ p1 ∧ q0 ≤ y ∧ y ≤ q1) ∧ pno p0 q0 p1 x y < t
      · rw [if_pos hr, if_pos ⟨hr.1, by omega⟩]
      · rw [if_neg hr, if_neg (fun k => hr ⟨k.1, by omega⟩)]
theorem FI.all {a h : Nat} {xs ys : List Sb} {p0 q0 p1 q1 : Nat} {v : Int} (F : FI a h xs ys p0 q0 p1 q1 v (pcs p0 q0 p1 q1)) : gV ys a h = fillL (gV xs a h) a p0 q0 p1 q1 v := by
  obtain ⟨_, _, _, hv⟩ := F
  refine gV_filled fun x y hx hy => ?_
  rw [hv x y hx hy]
  by_cases hr : p0 ≤ x ∧ x ≤ p1 ∧ q0 ≤ y ∧ y ≤ q1
  · rw [if_pos ⟨hr, pno_lt hr⟩, if_pos hr]
  · rw [if_neg (fun k => hr k.1), if_neg hr]
end Go.Proofs.YtbnjbgcadkdljaaGreatDoor

namespace Go.Proofs.YtbnjbgcadkdljaaGreatDoor
open Go Go.RowKit
theorem kfgrid0_1 : (Tryz.prog.info? 105).bind (fun i => i.zero.map Value.cells) = some (List.toArray [(.int .i64 0), (.int .i64 0)]) := by kernel_rfl
theorem kfgrid0_2 : szB Tryz.prog 105 2 = true := by kernel_rfl
theorem kfgrid0_3 : aggB Tryz.prog 105 2 = true := by kernel_rfl
theorem kfgrid0_4 : (Tryz.prog.info? 54).bind (fun i => i.zero.map Value.cells) = some (List.toArray [(.int .i64 0), (.int .i64 0), (.int .i64 0), (.int .i64 0)]) := by kernel_rfl
theorem kfgrid0_6 : oneB Tryz.prog 2 = true := by kernel_rfl
theorem kfgrid0_8 : szB Tryz.prog 54 4 = true := by kernel_rfl
theorem kfgrid0_9 : aggB Tryz.prog 54 4 = true := by kernel_rfl
theorem kfgrid0_10 : fldB Tryz.prog 77 0 0 = true := by kernel_rfl
theorem kfgrid0_11 : fldB Tryz.prog 77 1 1 = true := by kernel_rfl
theorem kfgrid0_12 : callB Tryz.prog 35 = true := by kernel_rfl
theorem kfgrid0_13 : fldB Tryz.prog 77 3 3 = true := by kernel_rfl
theorem kfgrid0_14 : oneB Tryz.prog 75 = true := by kernel_rfl
theorem kfgrid0_15 : fldB Tryz.prog 77 2 2 = true := by kernel_rfl
theorem kfgrid0_16 : elB Tryz.prog 75 1 = true := by kernel_rfl
theorem kfgrid0_17 : oneB Tryz.prog 79 = true := by kernel_rfl
def ptrs (xs : List Sb) : List Value := xs.map fun s => .pointer (some ⟨s.b, 0, none⟩)
def Sb.cells (s : Sb) : List Value := [.int .i64 (s.w : Int), .int .i64 (s.h : Int), s.L.val (s.w * s.h)]
def Sb.obs (s : Sb) : List Ob := [.blk s.b s.cells 121, s.L.ob (s.w * s.h)]
theorem ptrs_len {xs : List Sb} : (ptrs xs).length = xs.length := by simp [ptrs]
theorem ptrs_get {xs : List Sb} {t : Nat} (h : t < xs.length) : (ptrs xs)[t]? = some (.pointer (some ⟨(gs xs t).b, 0, none⟩)) := by
  unfold ptrs; rw [List.getElem?_map, gs_get h]; rfl
/-- a grid, as it is read -/
structure GR (w : World) (g a h : Nat) (A : Option Addr) (cap : Nat) (xs : List Sb) : Prop where
  blk : Rd w (some ⟨g, 0, none⟩) [.int .i64 (a : Int), .int .i64 (h : Int), .int .i64 (across a : Int), .slice A xs.length cap]
  row : Rd w A (ptrs xs)
  sl : ∀ t, t < xs.length → Rd w (some ⟨(gs xs t).b, 0, none⟩) (gs xs t).cells ∧ (gs xs t).L.rd w
theorem GR.below {w w' : World} {g a h : Nat} {A : Option Addr} {cap : Nat} {xs : List Sb} (G : GR w g a h A cap xs) (hb : Below w.heap.size w w') : GR w' g a h A cap xs :=
  ⟨G.blk.below hb, G.row.below hb, fun t ht => ⟨(G.sl t ht).1.below hb, Ld.rd_below (G.sl t ht).2 hb⟩⟩
def gBase (g a h : Nat) (A : Option Addr) (cap : Nat) (xs : List Sb) : List Ob := [.blk g [.int .i64 (a : Int), .int .i64 (h : Int), .int .i64 (across a : Int), .slice A xs.length cap] 77, .row A xs.length cap (ptrs xs) 79 1, obA Sb.obs xs]
theorem GR.of {w0 w : World} {l : List Ob} {g a h : Nat} {A : Option Addr} {cap : Nat} {xs : List Sb} (H : HS w0 w (.blk g [.int .i64 (a : Int), .int .i64 (h : Int), .int .i64 (across a : Int), .slice A xs.length cap] 77 :: .row A xs.length cap (ptrs xs) 79 1 :: obA Sb.obs xs :: l)) : GR w g a h A cap xs :=
  ⟨H.rdb (i := 0) rfl, H.rd (i := 1) rfl, fun t ht => by
    have h1 : HS w0 w (obA Sb.obs xs :: l) := H.tail.tail
    have h2 := h1.memA (List.mem_of_getElem? (gs_get ht))
    exact ⟨h2.rdb (i := 0) rfl, Ld.rd_of (L := (gs xs t).L) h2 (i := 1) rfl⟩⟩
/-- a grid as one thing: its place, size and values -/
def gAb (g a h : Nat) (V : List Int) (bl : Nat → Prop) : Ab where
  ok B w := ∃ A cap xs, GI a h xs ∧ gV xs a h = V ∧ (Ab.of (gBase g a h A cap xs)).ok B w ∧ (Ab.of (gBase g a h A cap xs)).has = bl
  has := bl
  lt B w h k hk := by
    obtain ⟨A, cap, xs, _, _, h1, rfl⟩ := h
    exact Ab.lt _ B w h1 k hk
  keep B w w' row h hg hne := by
    obtain ⟨A, cap, xs, h1, h2, h3, rfl⟩ := h
    exact ⟨A, cap, xs, h1, h2, Ab.keep _ B w w' row h3 hg hne, rfl⟩
  mono B B' w h hb := by
    obtain ⟨A, cap, xs, h1, h2, h3, rfl⟩ := h
    exact ⟨A, cap, xs, h1, h2, Ab.mono _ B B' w h3 hb, rfl⟩
def gOb (g a h : Nat) (V : List Int) (bl : Nat → Prop) : Ob := .abs (gAb g a h V bl)
theorem HS.gclose {w0 w : World} {l : List Ob} {g a h : Nat} {A : Option Addr} {cap : Nat} {xs : List Sb} {V : List Int} (G : GI a h xs) (hV : gV xs a h = V) (H : HS w0 w (.blk g [.int .i64 (a : Int), .int .i64 (h : Int), .int .i64 (across a : Int), .slice A xs.length cap] 77 :: .row A xs.length cap (ptrs xs) 79 1 :: obA Sb.obs xs :: l)) :
    ∃ bl, HS w0 w (gOb g a h V bl :: l) := by
  refine ⟨(Ab.of (gBase g a h A cap xs)).has, ?_⟩
  have h1 := HS.pack (l := gBase g a h A cap xs) H
  exact h1.tail.cons ⟨A, cap, xs, G, hV, h1.own _ List.mem_cons_self, rfl⟩ (List.pairwise_cons.1 h1.apart).1
theorem HS.gopen {w0 w : World} {l : List Ob} {g a h : Nat} {V : List Int} {bl : Nat → Prop} (H : HS w0 w (gOb g a h V bl :: l)) :
    ∃ A cap xs, GI a h xs ∧ gV xs a h = V ∧ HS w0 w (.blk g [.int .i64 (a : Int), .int .i64 (h : Int), .int .i64 (across a : Int), .slice A xs.length cap] 77 :: .row A xs.length cap (ptrs xs) 79 1 :: obA Sb.obs xs :: l) := by
  obtain ⟨A, cap, xs, G, hV, h1, hb⟩ := (H.own _ List.mem_cons_self : (gAb g a h V bl).ok _ _)
  refine ⟨A, cap, xs, G, hV, ?_⟩
  refine HS.unpack (l := gBase g a h A cap xs) (H.tail.cons h1 fun o' ho' k hk => ?_)
  exact (List.pairwise_cons.1 H.apart).1 o' ho' k (show bl k from hb ▸ hk)
/-- a grid that is there, to be read -/
def GRd (w : World) (g a h : Nat) (V : List Int) : Prop := ∃ A cap xs, GI a h xs ∧ gV xs a h = V ∧ GR w g a h A cap xs
theorem GRd.below {w w' : World} {g a h : Nat} {V : List Int} (R : GRd w g a h V) (hb : Below w.heap.size w w') : GRd w' g a h V := by
  obtain ⟨A, cap, xs, G, hV, R⟩ := R
  exact ⟨A, cap, xs, G, hV, R.below hb⟩
theorem HS.rdg {w0 w : World} {l : List Ob} {i g a h : Nat} {V : List Int} {bl : Nat → Prop} (H : HS w0 w l) (hi : l[i]? = some (gOb g a h V bl)) : GRd w g a h V := by
  obtain ⟨A, cap, xs, G, hV, h1, hb⟩ := (H.at_ hi : (gAb g a h V bl).ok _ _)
  have h2 : HS w0 w (gBase g a h A cap xs) := ⟨H.base, h1.1, h1.2⟩
  exact ⟨A, cap, xs, G, hV, GR.of h2⟩
def SzG (a h : Nat) : Prop := 1 ≤ a ∧ a ≤ 1024 ∧ 1 ≤ h ∧ h ≤ 1024
theorem gV_bd {a h : Nat} {xs : List Sb} (G : GI a h xs) : AllB (gV xs a h) := fun v hv => by
  unfold gV at hv
  obtain ⟨i, hi, rfl⟩ := List.mem_map.1 hv
  have hi' := List.mem_range.1 hi
  have ha := G.a1
  have hx : i % a < a := Nat.mod_lt _ (by omega)
  have hy : i / a < h := Nat.div_lt_of_lt_mul hi'
  obtain ⟨ht, b1, b2⟩ := G.tile hx hy
  have hll : (gs xs (tno a (i % a) (i / a))).lst.length = (gs xs (tno a (i % a) (i / a))).w * (gs xs (tno a (i % a) (i / a))).h := Ld.len (G.ok _ ht)
  unfold gval
  refine AllB.at_ (Ld.bd (G.ok _ ht)) ?_
  have := cell_lt' b1 b2
  simp only [Sb.lst] at hll
  rw [hll]; exact Nat.lt_of_lt_of_eq this (Nat.mul_comm _ _)
structure GV (a h : Nat) (V : List Int) : Prop where
  a1 : 1 ≤ a
  a2 : a ≤ 1024
  h1 : 1 ≤ h
  h2 : h ≤ 1024
  len : V.length = a * h
  bd : AllB V
theorem GRd.gv {w : World} {g a h : Nat} {V : List Int} (R : GRd w g a h V) : GV a h V := by
  obtain ⟨A, cap, xs, G, rfl, R⟩ := R
  exact ⟨G.a1, G.a2, G.h1, G.h2, gV_len, gV_bd G⟩
theorem GV.sz {a h : Nat} {V : List Int} (G : GV a h V) : SzG a h := ⟨G.a1, G.a2, G.h1, G.h2⟩
theorem quo16 {x : Nat} (h : x ≤ 1024) : IntKind.i64.wrap ((x : Int).tdiv 16) = ((x / 16 : Nat) : Int) := tdq (by omega) ((wi (by omega)).trans (by omega))
theorem rem16 {x : Nat} : (x : Int).tmod 16 = ((x % 16 : Nat) : Int) := by
  rw [Int.tmod_eq_emod_of_nonneg (by omega)]; omega

set_option maxRecDepth 100000 in
theorem gridInner_any (x y : Nat) (w : World) :
    Ret Tryz.prog 70 [.int .i64 (x : Int), .int .i64 (y : Int)] w (fun v w' => v = .agg #[.int .i64 ((x % 16 : Nat) : Int), .int .i64 ((y % 16 : Nat) : Int)] ∧ Below w.heap.size w w') := by
  refine ret_enter Tryz.func70 rfl rfl rfl ?_
  have H0 := HS.start w
  refine cw_seq ?_
  refine cw_reg ?_
  refine reg_op (op_alloc H0 rfl kfgrid0_1) rfl rfl ?_
  rintro _ w2 ⟨b1, rfl, H3⟩
  refine reg_nil ?_
  refine fn_next ?_
  refine cw_seq ?_
  refine cw_reg ?_
  refine ry (y_mov rfl rfl) rfl rfl ?_
  refine ry (y_rem rfl rfl rfl (by decide) (rem16)) rfl rfl ?_
  refine ry (y_mov rfl rfl) rfl rfl ?_
  refine ry (y_rem rfl rfl rfl (by decide) (rem16)) rfl rfl ?_
  refine ry (y_build (places := [(0, 1), (1, 1)]) (parts := [(0, _), (1, _)]) (vs := [(0, _), (1, _)]) (cs := [.int _ _, .int _ _]) rfl Tryz.underlying105 (by kernel_rfl) kfgrid0_1 rfl ⟨rfl, rfl, trivial⟩ rfl) rfl rfl ?_
  refine reg_op (op_st (i := 0) (vs := [.int _ _, .int _ _]) H3 rfl rfl rfl rfl rfl kfgrid0_2 rfl rfl rfl) rfl rfl ?_
  rintro _ w4 H5
  refine reg_nil ?_
  refine fn_next ?_
  refine cw_ret ?_
  refine fn_ret1 rfl (⟨_, rfl, load_agg (cs := [_, _]) kfgrid0_3 rfl fun j v hv => by rw [Nat.zero_add]; exact H5.cell (i := 0) rfl hv⟩) ?_
  exact ⟨rfl, H5.base⟩

set_option maxRecDepth 100000 in
theorem gridCheck_any (g a h : Nat) (A : Option Addr) (cap : Nat) (xs : List Sb) (x0 y0 x1 y1 : Int) (w : World) (G : GI a h xs) (R : GR w g a h A cap xs) :
    Ret Tryz.prog 67 [pt (some ⟨g, 0, none⟩) 0, .agg #[.int .i64 x0, .int .i64 y0, .int .i64 x1, .int .i64 y1]] w (fun v w' => v = .int .i64 (withinC x0 y0 x1 y1 a h) ∧ Below w.heap.size w w') := by
  have ha1 := G.a1; have ha2 := G.a2; have hh1 := G.h1; have hh2 := G.h2
  refine ret_enter Tryz.func67 rfl rfl rfl ?_
  have H0 := HS.start w
  refine cw_seq ?_
  refine cw_reg ?_
  refine reg_op (op_box (cs := [.int _ _, .int _ _, .int _ _, .int _ _]) H0 rfl rfl rfl) rfl rfl ?_
  rintro _ w2 ⟨b1, rfl, H3⟩
  refine ry (y_asg rfl rfl) rfl rfl ?_
  refine reg_nil ?_
  refine fn_next ?_
  refine cw_seq ?_
  refine cw_seq ?_
  refine cw_reg ?_
  refine ry (y_mov rfl rfl) rfl rfl ?_
  refine ry (y_peqlnil rfl Tryz.underlying30 rfl rfl) rfl rfl ?_
  refine reg_nil ?_
  refine fn_next ?_
  refine cw_condf rfl ?_
  refine cw_skip ?_
  refine fn_next ?_
  refine cw_seq ?_
  refine cw_draw H3 [0, 1, 2, 3, 4, 5, 6, 7, 8, 9, 10] [] (fun X HX => HX) (by kernel_rfl) (by kernel_rfl) (by rfl) ?_
  simp only [pick, List.getElem?_cons_succ, List.getElem?_cons_zero]
  refine hk_y (fun Y HY => y_ldb (i := 0) (cs := [_, _, _, _]) HY rfl rfl kfgrid0_9 rfl rfl) rfl rfl ?_
  refine hk_y (fun Y HY => y_mov rfl rfl) rfl rfl ?_
  refine hk_y (fun Y HY => y_nilck rfl rfl) rfl rfl ?_
  refine hk_y (fun Y HY => y_far ((R.below HY.base).blk) rfl rfl kfgrid0_10 rfl (rfl)) rfl rfl ?_
  refine hk_y (fun Y HY => y_ldr ((R.below HY.base).blk) rfl rfl kfgrid0_6 (rfl)) rfl rfl ?_
  refine hk_y (fun Y HY => y_mov rfl rfl) rfl rfl ?_
  refine hk_y (fun Y HY => y_nilck rfl rfl) rfl rfl ?_
  refine hk_y (fun Y HY => y_far ((R.below HY.base).blk) rfl rfl kfgrid0_11 rfl (rfl)) rfl rfl ?_
  refine hk_y (fun Y HY => y_ldr ((R.below HY.base).blk) rfl rfl kfgrid0_6 (rfl)) rfl rfl ?_
  refine hk_q (qy_call (fun Y HY => ret_elder (within_any x0 y0 x1 y1 a h _)) rfl kfgrid0_12 ⟨rfl, rfl, rfl, trivial⟩) rfl rfl ?_
  refine hk_y (fun Y HY => y_asg rfl rfl) rfl rfl ?_
  refine hk_nil ?_
  intro w4 H5
  refine tv_nil ?_
  refine fn_next ?_
  refine cw_ret ?_
  refine fn_ret1 rfl rfl ?_
  exact ⟨rfl, H5.base⟩

set_option maxRecDepth 100000 in
theorem gridSize_any (g a h : Nat) (A : Option Addr) (cap : Nat) (xs : List Sb) (w : World) (G : GI a h xs) (R : GR w g a h A cap xs) :
    Ret Tryz.prog 24 [pt (some ⟨g, 0, none⟩) 0] w (fun v w' => v = .tuple #[.int .i64 (a : Int), .int .i64 (h : Int)] ∧ Below w.heap.size w w') := by
  have ha1 := G.a1; have ha2 := G.a2; have hh1 := G.h1; have hh2 := G.h2
  refine ret_enter Tryz.func24 rfl rfl rfl ?_
  have H0 := HS.start w
  refine cw_seq ?_
  refine cw_reg ?_
  refine ry (y_asg rfl rfl) rfl rfl ?_
  refine ry (y_asg rfl rfl) rfl rfl ?_
  refine reg_nil ?_
  refine fn_next ?_
  refine cw_seq ?_
  refine cw_seq ?_
  refine cw_reg ?_
  refine ry (y_mov rfl rfl) rfl rfl ?_
  refine ry (y_peqlnil rfl Tryz.underlying30 rfl rfl) rfl rfl ?_
  refine reg_nil ?_
  refine fn_next ?_
  refine cw_condf rfl ?_
  refine cw_skip ?_
  refine fn_next ?_
  refine cw_seq ?_
  refine cw_draw H0 [0, 1, 2, 3, 4, 5, 6, 7, 8, 9] [] (fun X HX => HX) (by kernel_rfl) (by kernel_rfl) (by rfl) ?_
  simp only [pick, List.getElem?_cons_succ, List.getElem?_cons_zero]
  refine hk_y (fun Y HY => y_mov rfl rfl) rfl rfl ?_
  refine hk_y (fun Y HY => y_nilck rfl rfl) rfl rfl ?_
  refine hk_y (fun Y HY => y_far ((R.below HY.base).blk) rfl rfl kfgrid0_10 rfl (rfl)) rfl rfl ?_
  refine hk_y (fun Y HY => y_ldr ((R.below HY.base).blk) rfl rfl kfgrid0_6 (rfl)) rfl rfl ?_
  refine hk_y (fun Y HY => y_mov rfl rfl) rfl rfl ?_
  refine hk_y (fun Y HY => y_nilck rfl rfl) rfl rfl ?_
  refine hk_y (fun Y HY => y_far ((R.below HY.base).blk) rfl rfl kfgrid0_11 rfl (rfl)) rfl rfl ?_
  refine hk_y (fun Y HY => y_ldr ((R.below HY.base).blk) rfl rfl kfgrid0_6 (rfl)) rfl rfl ?_
  refine hk_y (fun Y HY => y_asg rfl rfl) rfl rfl ?_
  refine hk_y (fun Y HY => y_asg rfl rfl) rfl rfl ?_
  refine hk_nil ?_
  intro w1 H2
  refine tv_nil ?_
  refine fn_next ?_
  refine cw_ret ?_
  refine fn_retn (vs := [_, _]) rfl ⟨rfl, rfl, trivial⟩ rfl ?_
  exact ⟨rfl, H2.base⟩

set_option maxRecDepth 100000 in
theorem gridAll_any (g a h : Nat) (A : Option Addr) (cap : Nat) (xs : List Sb) (w : World) (G : GI a h xs) (R : GR w g a h A cap xs) :
    Ret Tryz.prog 26 [pt (some ⟨g, 0, none⟩) 0] w (fun v w' => v = .agg #[.int .i64 0, .int .i64 0, .int .i64 ((a : Int) - 1), .int .i64 ((h : Int) - 1)] ∧ Below w.heap.size w w') := by
  have ha1 := G.a1; have ha2 := G.a2; have hh1 := G.h1; have hh2 := G.h2
  refine ret_enter Tryz.func26 rfl rfl rfl ?_
  have H0 := HS.start w
  refine cw_seq ?_
  refine cw_reg ?_
  refine reg_op (op_alloc H0 rfl kfgrid0_4) rfl rfl ?_
  rintro _ w2 ⟨b1, rfl, H3⟩
  refine reg_nil ?_
  refine fn_next ?_
  refine cw_seq ?_
  refine cw_seq ?_
  refine cw_reg ?_
  refine ry (y_mov rfl rfl) rfl rfl ?_
  refine ry (y_peqlnil rfl Tryz.underlying30 rfl rfl) rfl rfl ?_
  refine reg_nil ?_
  refine fn_next ?_
  refine cw_condf rfl ?_
  refine cw_skip ?_
  refine fn_next ?_
  refine cw_seq ?_
  refine cw_draw H3 [0, 1, 2, 3, 4, 5, 6, 7, 8, 9, 10] [11] (fun X HX => (HX.pick (m := []) [] rfl (by decide))) (by kernel_rfl) (by kernel_rfl) (by rfl) ?_
  simp only [pick, List.getElem?_cons_succ, List.getElem?_cons_zero]
  refine hk_y (fun Y HY => y_mov rfl rfl) rfl rfl ?_
  refine hk_y (fun Y HY => y_nilck rfl rfl) rfl rfl ?_
  refine hk_y (fun Y HY => y_far ((R.below HY.base).blk) rfl rfl kfgrid0_10 rfl (rfl)) rfl rfl ?_
  refine hk_y (fun Y HY => y_ldr ((R.below HY.base).blk) rfl rfl kfgrid0_6 (rfl)) rfl rfl ?_
  refine hk_y (fun Y HY => y_sub rfl rfl rfl (wi (by omega))) rfl rfl ?_
  refine hk_y (fun Y HY => y_mov rfl rfl) rfl rfl ?_
  refine hk_y (fun Y HY => y_nilck rfl rfl) rfl rfl ?_
  refine hk_y (fun Y HY => y_far ((R.below HY.base).blk) rfl rfl kfgrid0_11 rfl (rfl)) rfl rfl ?_
  refine hk_y (fun Y HY => y_ldr ((R.below HY.base).blk) rfl rfl kfgrid0_6 (rfl)) rfl rfl ?_
  refine hk_y (fun Y HY => y_sub rfl rfl rfl (wi (by omega))) rfl rfl ?_
  refine hk_y (fun Y HY => y_build (places := [(0, 1), (1, 1), (2, 1), (3, 1)]) (parts := [(2, _), (3, _)]) (vs := [(2, _), (3, _)]) (cs := [.int _ _, .int _ _, .int _ _, .int _ _]) rfl Tryz.underlying54 (by kernel_rfl) kfgrid0_4 rfl ⟨rfl, rfl, trivial⟩ rfl) rfl rfl ?_
  refine hk_nil ?_
  intro w4 H5
  refine tv_op (op_st (i := 0) (vs := [.int _ _, .int _ _, .int _ _, .int _ _]) H5 rfl rfl rfl rfl rfl kfgrid0_8 rfl rfl rfl) rfl rfl ?_
  rintro _ w6 H7
  refine ⟨(H7.pick (m := []) [] rfl (by decide)), fun w8 e10 => ?_⟩
  have H9 := H7.ext e10
  refine tv_nil ?_
  refine fn_next ?_
  refine cw_ret ?_
  refine fn_ret1 rfl (⟨_, rfl, load_agg (cs := [_, _, _, _]) kfgrid0_9 rfl fun j v hv => by rw [Nat.zero_add]; exact H9.cell (i := 0) rfl hv⟩) ?_
  exact ⟨rfl, H9.base⟩

set_option maxRecDepth 100000 in
theorem gridSlab_any (g a h : Nat) (A : Option Addr) (cap : Nat) (xs : List Sb) (x y : Nat) (w : World) (G : GI a h xs) (Rb : Rd w (some ⟨g, 0, none⟩) [.int .i64 (a : Int), .int .i64 (h : Int), .int .i64 (across a : Int), .slice A xs.length cap]) (Rr : Rd w A (ptrs xs)) (hx : x < a) (hy : y < h) :
    Ret Tryz.prog 68 [pt (some ⟨g, 0, none⟩) 0, .int .i64 (x : Int), .int .i64 (y : Int)] w (fun v w' => v = .pointer (some ⟨(gs xs (tno a x y)).b, 0, none⟩) ∧ Below w.heap.size w w') := by
  have ha1 := G.a1; have ha2 := G.a2; have hh1 := G.h1; have hh2 := G.h2
  obtain ⟨ht, hxw, hyh⟩ := G.tile hx hy
  have hg := ptrs_get ht
  have hac : across a ≤ 64 := by unfold across; omega
  have htn : tno a x y = y / 16 * across a + x / 16 := rfl
  have hml : y / 16 * across a ≤ 64 * 64 := Nat.mul_le_mul (by omega) hac
  refine ret_enter Tryz.func68 rfl rfl rfl ?_
  have H0 := HS.start w
  refine cw_seq ?_
  refine cw_reg ?_
  refine ry (y_asg rfl rfl) rfl rfl ?_
  refine reg_nil ?_
  refine fn_next ?_
  refine cw_seq ?_
  refine cw_draw H0 [0, 1, 2, 3, 4, 5, 6, 7, 8, 9, 10, 11, 12, 13, 14, 15, 16] [] (fun X HX => HX) (by kernel_rfl) (by kernel_rfl) (by rfl) ?_
  simp only [pick, List.getElem?_cons_succ, List.getElem?_cons_zero]
  refine hk_y (fun Y HY => y_mov rfl rfl) rfl rfl ?_
  refine hk_y (fun Y HY => y_nilck rfl rfl) rfl rfl ?_
  refine hk_y (fun Y HY => y_far ((Rb.below HY.base)) rfl rfl kfgrid0_13 rfl (rfl)) rfl rfl ?_
  refine hk_y (fun Y HY => y_ldr ((Rb.below HY.base)) rfl rfl kfgrid0_14 (rfl)) rfl rfl ?_
  refine hk_y (fun Y HY => y_mov rfl rfl) rfl rfl ?_
  refine hk_y (fun Y HY => y_quo rfl rfl rfl (by decide) (quo16 (by omega))) rfl rfl ?_
  refine hk_y (fun Y HY => y_mov rfl rfl) rfl rfl ?_
  refine hk_y (fun Y HY => y_nilck rfl rfl) rfl rfl ?_
  refine hk_y (fun Y HY => y_far ((Rb.below HY.base)) rfl rfl kfgrid0_15 rfl (rfl)) rfl rfl ?_
  refine hk_y (fun Y HY => y_ldr ((Rb.below HY.base)) rfl rfl kfgrid0_6 (rfl)) rfl rfl ?_
  refine hk_y (fun Y HY => y_mul rfl rfl rfl (show _ = ((y / 16 * across a : Nat) : Int) from by rw [← Int.natCast_mul]; exact wi (by omega))) rfl rfl ?_
  refine hk_y (fun Y HY => y_mov rfl rfl) rfl rfl ?_
  refine hk_y (fun Y HY => y_quo rfl rfl rfl (by decide) (quo16 (by omega))) rfl rfl ?_
  refine hk_y (fun Y HY => y_add rfl rfl rfl (show _ = ((tno a x y : Nat) : Int) from by rw [htn, ← Int.natCast_add]; exact wi (by omega))) rfl rfl ?_
  refine hk_y (fun Y HY => y_iar ((Rr.below HY.base)) rfl rfl rfl kfgrid0_16 (rfl) (by omega) (Nat.mul_one _) (hg)) rfl rfl ?_
  refine hk_y (fun Y HY => y_ldr ((Rr.below HY.base)) rfl rfl kfgrid0_17 (hg)) rfl rfl ?_
  refine hk_y (fun Y HY => y_asg rfl rfl) rfl rfl ?_
  refine hk_nil ?_
  intro w1 H2
  refine tv_nil ?_
  refine fn_next ?_
  refine cw_ret ?_
  refine fn_ret1 rfl rfl ?_
  exact ⟨rfl, H2.base⟩

theorem at_tile {a h : Nat} {xs : List Sb} (G : GI a h xs) {x y : Nat} (hx : x < a) (hy : y < h) : atC (gs xs (tno a x y)).w (gs xs (tno a x y)).h ((x % 16 : Nat) : Int) ((y % 16 : Nat) : Int) = 0 ∧ atV (gs xs (tno a x y)).lst (gs xs (tno a x y)).w (gs xs (tno a x y)).h ((x % 16 : Nat) : Int) ((y % 16 : Nat) : Int) = gval xs a x y := by
  obtain ⟨ht, hxw, hyh⟩ := G.tile hx hy
  have hz : atC (gs xs (tno a x y)).w (gs xs (tno a x y)).h ((x % 16 : Nat) : Int) ((y % 16 : Nat) : Int) = 0 := by
    obtain ⟨s1, s2, s3, s4⟩ := G.size ht
    unfold atC withinC; simp only [insideB_not]
    rw [if_neg (by unfold wrap64; omega), if_neg (by omega), if_neg (by omega)]
  exact ⟨hz, by rw [atV_ok hz]; rfl⟩
theorem gat_nat {a h : Nat} {xs : List Sb} (G : GI a h xs) {x0 y0 x1 y1 : Int} (hw : withinC x0 y0 x1 y1 a h = 0) : ∃ p0 q0 p1 q1 : Nat, x0 = p0 ∧ y0 = q0 ∧ x1 = p1 ∧ y1 = q1 ∧ p0 ≤ p1 ∧ p1 < a ∧ q0 ≤ q1 ∧ q1 < h := by
  have h1 := G.a1; have h2 := G.a2; have h3 := G.h1; have h4 := G.h2
  have := within_zero (by omega) (by omega) (by omega) (by omega) hw
  exact ⟨x0.toNat, y0.toNat, x1.toNat, y1.toNat, by omega, by omega, by omega, by omega, by omega, by omega, by omega, by omega⟩
theorem gSize (g a h : Nat) (V : List Int) (w : World) (R : GRd w g a h V) : Ret Tryz.prog 24 [pt (some ⟨g, 0, none⟩) 0] w (fun v w' => v = .tuple #[.int .i64 (a : Int), .int .i64 (h : Int)] ∧ Below w.heap.size w w') := by
  obtain ⟨A, cap, xs, G, rfl, R⟩ := R
  exact gridSize_any g a h A cap xs w G R

theorem gAll (g a h : Nat) (V : List Int) (w : World) (R : GRd w g a h V) : Ret Tryz.prog 26 [pt (some ⟨g, 0, none⟩) 0] w (fun v w' => v = .agg #[.int .i64 0, .int .i64 0, .int .i64 ((a : Int) - 1), .int .i64 ((h : Int) - 1)] ∧ Below w.heap.size w w') := by
  obtain ⟨A, cap, xs, G, rfl, R⟩ := R
  exact gridAll_any g a h A cap xs w G R

end Go.Proofs.YtbnjbgcadkdljaaGreatDoor
