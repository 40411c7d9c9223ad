/- Layer 42 without the program: put together, and cut out again. -/
import Derived.Test.YtbhmkpnihgjlnaaTurn2
set_option linter.unusedVariables false
set_option linter.unusedSimpArgs false
namespace Go.Proofs.Ytbhmkpnihgjlnaa
open Go Go.RowKit

theorem lay_at {U V : List Int} {p q a h x y i : Nat} (hU : U.length = p * q) (hl : V.length = a * h) (ha : 1 ≤ a) (hh : 1 ≤ h) (hi : i < p * q) : nth (layV U p (x : Int) (y : Int) ((x : Int) + a - 1) ((y : Int) + h - 1) V) i = if x ≤ i % p ∧ i % p < x + a ∧ y ≤ i / p ∧ i / p < y + h then nth V ((i / p - y) * a + (i % p - x)) else nth U i := by
  have e1 : ((x : Int) + a - 1).toNat = x + a - 1 := by omega
  have e2 : ((y : Int) + h - 1).toNat = y + h - 1 := by omega
  unfold layV
  rw [e1, e2, Int.toNat_natCast, Int.toNat_natCast, layT_at (by rw [hU]; exact hi)]
  unfold rk
  rw [show x + a - 1 + 1 - x = a by omega]
  generalize i % p = c
  generalize i / p = r
  by_cases hc : x ≤ c ∧ c < x + a ∧ y ≤ r ∧ r < y + h
  · have h3 := cell_lt (a := a) (h := h) (x := c - x) (y := r - y) (by omega) (by omega)
    rw [if_pos hc, if_pos ⟨⟨hc.1, by omega, hc.2.2.1, by omega⟩, by rw [hl]; exact h3⟩]
  · rw [if_neg hc, if_neg fun k => hc ⟨k.1.1, by omega, k.1.2.2.1, by omega⟩]
theorem lay_at0 {U V : List Int} {p q a h i : Nat} (hU : U.length = p * q) (hl : V.length = a * h) (ha : 1 ≤ a) (hh : 1 ≤ h) (hi : i < p * q) : nth (layV U p 0 0 ((a : Int) - 1) ((h : Int) - 1) V) i = if i % p < a ∧ i / p < h then nth V (i / p * a + i % p) else nth U i := by
  have := lay_at (x := 0) (y := 0) hU hl ha hh hi
  rw [show ((0 : Nat) : Int) + a - 1 = (a : Int) - 1 by omega, show ((0 : Nat) : Int) + h - 1 = (h : Int) - 1 by omega] at this
  simp only [Nat.zero_le, true_and, Nat.zero_add, Nat.sub_zero] at this
  exact this
def joinV (V : List Int) (a h : Nat) (V2 : List Int) (a2 h2 p q x y : Nat) : List Int := layV (layV (List.replicate (p * q) 0) p 0 0 ((a : Int) - 1) ((h : Int) - 1) V) p x y ((x : Int) + a2 - 1) ((y : Int) + h2 - 1) V2
theorem beside_val {V V2 : List Int} {a h a2 : Nat} (G : GV a h V) (G2 : GV a2 h V2) : joinV V a h V2 a2 h (a + a2) h a 0 = beV V a V2 a2 h := by
  have hr : (List.replicate ((a + a2) * h) (0 : Int)).length = (a + a2) * h := List.length_replicate
  have hU : (layV (List.replicate ((a + a2) * h) 0) (a + a2) 0 0 ((a : Int) - 1) ((h : Int) - 1) V).length = (a + a2) * h := by rw [layV_len, hr]
  unfold joinV
  refine nth_ext (by rw [layV_len, hU, beV_len]) fun i hi => ?_
  rw [layV_len, hU] at hi
  rw [lay_at hU G2.len G2.a1 G2.h1 hi, lay_at0 hr G.len G.a1 G.h1 hi]
  obtain ⟨h1, h2, h3⟩ := cell_parts hi
  have hb := beV_at (V := V) (U := V2) (a := a) (b := a2) (h := h) h1 h2
  rw [← h3] at hb
  rw [hb]
  generalize i % (a + a2) = c at *
  generalize i / (a + a2) = r at *
  by_cases hc : c < a
  · rw [if_neg (by omega), if_pos ⟨hc, h2⟩, if_pos hc]
  · rw [if_pos ⟨by omega, h1, Nat.zero_le _, by omega⟩, if_neg hc, Nat.sub_zero]
theorem nth_app {A B : List Int} {i : Nat} : nth (A ++ B) i = if i < A.length then nth A i else nth B (i - A.length) := by
  by_cases h : i < A.length
  · rw [if_pos h, nth_app_lt h]
  · rw [if_neg h]; simp [nth, List.getD, List.getElem?_append_right (Nat.le_of_not_lt h)]
theorem below_val {V V2 : List Int} {a h h2 : Nat} (G : GV a h V) (G2 : GV a h2 V2) : joinV V a h V2 a h2 a (h + h2) 0 h = V ++ V2 := by
  have hr : (List.replicate (a * (h + h2)) (0 : Int)).length = a * (h + h2) := List.length_replicate
  have hU : (layV (List.replicate (a * (h + h2)) 0) a 0 0 ((a : Int) - 1) ((h : Int) - 1) V).length = a * (h + h2) := by rw [layV_len, hr]
  unfold joinV
  refine nth_ext (by rw [layV_len, hU, List.length_append, G.len, G2.len, Nat.mul_add]) fun i hi => ?_
  rw [layV_len, hU] at hi
  rw [lay_at hU G2.len G2.a1 G2.h1 hi, lay_at0 hr G.len G.a1 G.h1 hi, nth_app, G.len]
  obtain ⟨h1, h2', h3⟩ := cell_parts hi
  generalize i % a = c at *
  generalize i / a = r at *
  subst h3
  by_cases hc : r < h
  · have := cell_lt h1 hc
    rw [if_neg (by omega), if_pos ⟨h1, hc⟩, if_pos this]
  · have hm : h * a ≤ r * a := Nat.mul_le_mul_right _ (by omega)
    rw [if_pos ⟨Nat.zero_le _, by omega, by omega, h2'⟩, if_neg (by rw [Nat.mul_comm a h]; omega)]
    congr 1
    rw [Nat.sub_mul, Nat.mul_comm a h]; omega
/-- the second part is cut out of what two make beside each other -/
theorem crop_beside {V V2 : List Int} {a h a2 : Nat} (G : GV a h V) (G2 : GV a2 h V2) (s : SzG (a + a2) h) : gvalV (beV V a V2 a2 h) (a + a2) h ((a : Nat) : Int) ((0 : Nat) : Int) ((a + a2 - 1 : Nat) : Int) ((h - 1 : Nat) : Int) = V2 := by
  have z1 := G.a1; have z2 := G2.a1; have z3 := G.h1
  rw [gvalV_ok (within_okG s (by omega) (by omega) (by omega) (by omega)) (by omega) (by omega)]
  refine nth_ext (by rw [rvAll_len, G2.len, show h - 1 + 1 - 0 = h by omega, show a + a2 - 1 + 1 - a = a2 by omega, Nat.mul_comm]) fun i hi => ?_
  rw [rvAll_len, show h - 1 + 1 - 0 = h by omega, show a + a2 - 1 + 1 - a = a2 by omega, Nat.mul_comm] at hi
  obtain ⟨h1, h2, h3⟩ := cell_parts hi
  rw [show h - 1 + 1 - 0 = h by omega, show a + a2 - 1 + 1 - a = a2 by omega]
  generalize i % a2 = c at *
  generalize i / a2 = r at *
  subst h3
  rw [rvAll_at _ _ _ h2 h1, Nat.zero_add, beV_at (by omega) h2, if_neg (by omega), Nat.add_sub_cancel_left]
/-- the first part of what two make below each other -/
theorem crop_below {V V2 : List Int} {a h h2 : Nat} (G : GV a h V) (s : SzG a (h + h2)) (hh : 1 ≤ h2) : gvalV (V ++ V2) a (h + h2) ((0 : Nat) : Int) ((0 : Nat) : Int) ((a - 1 : Nat) : Int) ((h - 1 : Nat) : Int) = V := by
  have z1 := G.a1; have z3 := G.h1
  rw [gvalV_ok (within_okG s (by omega) (by omega) (by omega) (by omega)) (by omega) (by omega)]
  refine nth_ext (by rw [rvAll_len, G.len, show h - 1 + 1 - 0 = h by omega, show a - 1 + 1 - 0 = a by omega, Nat.mul_comm]) fun i hi => ?_
  rw [rvAll_len, show h - 1 + 1 - 0 = h by omega, show a - 1 + 1 - 0 = a by omega, Nat.mul_comm] at hi
  obtain ⟨h1, h2', h3⟩ := cell_parts hi
  rw [show h - 1 + 1 - 0 = h by omega, show a - 1 + 1 - 0 = a by omega]
  generalize i % a = c at *
  generalize i / a = r at *
  subst h3
  rw [rvAll_at _ _ _ h2' h1, Nat.zero_add, Nat.zero_add, nth_app_lt (by rw [G.len]; exact cell_lt h1 h2')]
/-- beside: swapped, below, swapped -/
theorem beside_swap {V V2 : List Int} {a h a2 : Nat} (G : GV a h V) (G2 : GV a2 h V2) : swV (swV V a h ++ swV V2 a2 h) h (a + a2) = beV V a V2 a2 h := by
  have z1 := G.a1; have z2 := G2.a1; have z3 := G.h1
  have hl : (swV V a h ++ swV V2 a2 h).length = h * (a + a2) := by rw [List.length_append, swV_len, swV_len, Nat.mul_add]
  refine nth_ext (by rw [swV_len, beV_len]) fun i hi => ?_
  rw [swV_len] at hi
  obtain ⟨h1, h2, h3⟩ := cell_parts hi
  generalize i % (a + a2) = c at *
  generalize i / (a + a2) = r at *
  subst h3
  have hs : nth (swV (swV V a h ++ swV V2 a2 h) h (a + a2)) (r * (a + a2) + c) = nth (swV V a h ++ swV V2 a2 h) (c * h + r) := mN_at h1 hi
  rw [hs, beV_at h1 h2, nth_app, swV_len]
  by_cases hc : c < a
  · have := cell_lt h2 hc
    rw [if_pos hc, if_pos this]
    exact mN_at (k := h * a) h2 this
  · have hm : a * h ≤ c * h := Nat.mul_le_mul_right _ (by omega)
    have e1 : c * h + r - h * a = (c - a) * h + r := by rw [Nat.sub_mul, Nat.mul_comm h a]; omega
    rw [if_neg hc, if_neg (by rw [Nat.mul_comm h a]; omega), e1]
    exact mN_at (k := h * a2) h2 (cell_lt h2 (by omega))
theorem be_bd {V V2 : List Int} {a h a2 : Nat} (G : GV a h V) (G2 : GV a2 h V2) : AllB (beV V a V2 a2 h) := allB_nth fun j hj => by
  rw [beV_len] at hj
  obtain ⟨h1, h2, h3⟩ := cell_parts hj
  rw [h3, beV_at h1 h2]
  by_cases hc : j % (a + a2) < a
  · rw [if_pos hc]; exact G.bd.at_ (by rw [G.len]; exact cell_lt hc h2)
  · rw [if_neg hc]; exact G2.bd.at_ (by rw [G2.len]; exact cell_lt (by omega) h2)
end Go.Proofs.Ytbhmkpnihgjlnaa
