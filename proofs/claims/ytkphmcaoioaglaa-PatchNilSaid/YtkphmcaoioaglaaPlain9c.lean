/- Layer 9 without the program: a new grid; a fill, piece by piece. -/
import Derived.Test.YtkphmcaoioaglaaPlain9b
set_option linter.unusedVariables false
set_option linter.unusedSimpArgs false
namespace Go.Proofs.Ytkphmcaoioaglaa
open Go Go.RowKit

theorem tcol_all {a : Nat} (h : 1 ≤ a) : tcol 0 (a - 1) = across a := by unfold tcol across; omega
theorem pcs_all {a h : Nat} (ha : 1 ≤ a) (hh : 1 ≤ h) : pcs 0 0 (a - 1) (h - 1) = across h * across a := by unfold pcs; rw [tcol_all ha, tcol_all hh]
theorem pcN_all {a h t : Nat} (ha : 1 ≤ a) (hh : 1 ≤ h) (ht : t < across h * across a) :
    (pcN 0 0 (a - 1) (h - 1) t).u1 + 1 = (pcN 0 0 (a - 1) (h - 1) t).u0 + tw a (t % across a) ∧ (pcN 0 0 (a - 1) (h - 1) t).v1 + 1 = (pcN 0 0 (a - 1) (h - 1) t).v0 + tw h (t / across a) ∧ 1 ≤ tw a (t % across a) ∧ 1 ≤ tw h (t / across a) ∧ tw a (t % across a) ≤ 16 ∧ tw h (t / across a) ≤ 16 := by
  have hm : t % across a < across a := Nat.mod_lt _ (across_pos ha)
  have hd : t / across a < across h := Nat.div_lt_of_lt_mul (by rw [Nat.mul_comm]; exact ht)
  simp only [pcN]
  rw [tcol_all ha]
  unfold tw across at *
  generalize t % _ = j at *
  generalize t / _ = k at *
  omega
/-- the first t slabs of a new grid -/
structure NI (a h : Nat) (v : Int) (xs : List Sb) (t : Nat) : Prop where
  len : xs.length = t
  all : ∀ i, i < t → (gs xs i).w = tw a (i % across a) ∧ (gs xs i).h = tw h (i / across a) ∧ (gs xs i).L = .flat v
theorem NI.nil {a h : Nat} {v : Int} : NI a h v [] 0 := ⟨rfl, fun i hi => absurd hi (Nat.not_lt_zero _)⟩
theorem gs_app_lt {xs ys : List Sb} {i : Nat} (h : i < xs.length) : gs (xs ++ ys) i = gs xs i := by simp [gs, List.getD, List.getElem?_append_left h]
theorem gs_app_eq {xs : List Sb} {s : Sb} : gs (xs ++ [s]) xs.length = s := by simp [gs, List.getD]
theorem NI.snoc {a h : Nat} {v : Int} {xs : List Sb} {t b : Nat} (H : NI a h v xs t) : NI a h v (xs ++ [⟨b, tw a (t % across a), tw h (t / across a), .flat v⟩]) (t + 1) :=
  ⟨by rw [List.length_append, H.len]; rfl, fun i hi => by
    by_cases h1 : i < t
    · rw [gs_app_lt (by rw [H.len]; exact h1)]; exact H.all i h1
    · have : i = xs.length := by rw [H.len]; omega
      subst this
      rw [gs_app_eq]
      have e := H.len
      subst e
      exact ⟨rfl, rfl, rfl⟩⟩
theorem NI.gi {a h : Nat} {v : Int} {xs : List Sb} (H : NI a h v xs (across h * across a)) (a1 : 1 ≤ a) (a2 : a ≤ 1024) (h1 : 1 ≤ h) (h2 : h ≤ 1024) (hv : B32 v) : GI a h xs :=
  ⟨a1, a2, h1, h2, H.len, fun t ht => by
    obtain ⟨e1, e2, e3⟩ := H.all t (by rw [← H.len]; exact ht)
    exact ⟨e1, e2⟩, fun t ht => by
    obtain ⟨e1, e2, e3⟩ := H.all t (by rw [← H.len]; exact ht)
    rw [e3]; exact hv⟩
theorem NI.gV {a h : Nat} {v : Int} {xs : List Sb} (H : NI a h v xs (across h * across a)) (G : GI a h xs) : gV xs a h = List.replicate (a * h) v := by
  refine rep_of gV_len fun j hj => ?_
  have ha := G.a1
  have hx : j % a < a := Nat.mod_lt _ (by omega)
  have hy : j / a < h := Nat.div_lt_of_lt_mul hj
  have e := of_div (rfl : j / a = _) (rfl : j % a = _)
  rw [e, gV_at hx hy]
  obtain ⟨ht, b1, b2⟩ := G.tile hx hy
  obtain ⟨e1, e2, e3⟩ := H.all _ (by rw [← H.len]; exact ht)
  unfold gval Sb.lst
  rw [e3]
  exact nth_rep (by have := cell_lt' b1 b2; rw [Nat.mul_comm (gs _ _).w]; exact this)
/-! fill -/
theorem tno_eq {a x y u v : Nat} (hx : x < a) (hu : u < a) : tno a x y = tno a u v ↔ x / 16 = u / 16 ∧ y / 16 = v / 16 := by
  obtain ⟨p1, p2⟩ := tno_parts (y := y) hx
  obtain ⟨q1, q2⟩ := tno_parts (y := v) hu
  constructor
  · intro h; rw [h] at p1 p2; exact ⟨by omega, by omega⟩
  · rintro ⟨e1, e2⟩; unfold tno; rw [e1, e2]
/-- the first t pieces are filled -/
def FI (a h : Nat) (xs ys : List Sb) (p0 q0 p1 q1 : Nat) (v : Int) (t : Nat) : Prop :=
  GI a h ys ∧ ys.length = xs.length ∧ (∀ i, (gs ys i).b = (gs xs i).b) ∧ ∀ x y, x < a → y < h → gval ys a x y = if (p0 ≤ x ∧ x ≤ p1 ∧ q0 ≤ y ∧ y ≤ q1) ∧ pno p0 q0 p1 x y < t then v else gval xs a x y
theorem FI.init {a h : Nat} {xs : List Sb} {p0 q0 p1 q1 : Nat} {v : Int} (G : GI a h xs) : FI a h xs xs p0 q0 p1 q1 v 0 :=
  ⟨G, rfl, fun _ => rfl, fun x y _ _ => by rw [if_neg (by omega)]⟩
theorem FI.step {a h : Nat} {xs ys : List Sb} {p0 q0 p1 q1 : Nat} {v : Int} {t : Nat} {L : Ld} (F : FI a h xs ys p0 q0 p1 q1 v t) (h1 : p0 ≤ p1) (h2 : p1 < a) (h3 : q0 ≤ q1) (h4 : q1 < h) (ht : t < pcs p0 q0 p1 q1) (c : Pc) (hc : c = pcN p0 q0 p1 q1 t)
    (hL : L.ok ((gs ys (tno a c.u0 c.v0)).w * (gs ys (tno a c.u0 c.v0)).h))
    (hf : L.lst ((gs ys (tno a c.u0 c.v0)).w * (gs ys (tno a c.u0 c.v0)).h) = fillL (gs ys (tno a c.u0 c.v0)).lst (gs ys (tno a c.u0 c.v0)).w (c.u0 % 16) (c.v0 % 16) (c.u1 % 16) (c.v1 % 16) v) :
    FI a h xs (ys.set (tno a c.u0 c.v0) { gs ys (tno a c.u0 c.v0) with L := L }) p0 q0 p1 q1 v (t + 1) := by
  obtain ⟨G, hl, hb, hv⟩ := F
  obtain ⟨k1, k2, k3, k4, k5, k6, k7, k8, k9, k10⟩ := pcN_tile h1 h3 ht
  rw [← hc] at k1 k2 k3 k4 k5 k6 k7 k8 k9 k10
  have hu : c.u0 < a := by omega
  have hw : c.v0 < h := by omega
  obtain ⟨htl, _, _⟩ := G.tile hu hw
  refine ⟨G.set htl hL, by rw [List.length_set]; exact hl, fun i => ?_, fun x y hx hy => ?_⟩
  · by_cases e : tno a c.u0 c.v0 = i
    · subst e; rw [gs_set_eq htl]; exact hb _
    · rw [gs_set_ne e]; exact hb i
  · rw [gval_fill G htl hf hx hy, hv x y hx hy]
    have key := pcN_has (x := x) (y := y) h1 h3 ht
    rw [← hc] at key
    have e1 : (tno a x y = tno a c.u0 c.v0 ∧ c.u0 % 16 ≤ x % 16 ∧ x % 16 ≤ c.u1 % 16 ∧ c.v0 % 16 ≤ y % 16 ∧ y % 16 ≤ c.v1 % 16) ↔ (c.u0 ≤ x ∧ x ≤ c.u1 ∧ c.v0 ≤ y ∧ y ≤ c.v1) := by
      rw [tno_eq hx hu]; omega
    by_cases hp : pno p0 q0 p1 x y = t
    · by_cases hr : p0 ≤ x ∧ x ≤ p1 ∧ q0 ≤ y ∧ y ≤ q1
      · rw [if_pos (e1.2 (key.2 ⟨hr, hp⟩)), if_pos ⟨hr, by omega⟩]
      · rw [if_neg (fun k => hr (key.1 (e1.1 k)).1), if_neg (fun k => hr k.1), if_neg (fun k => hr k.1)]
    · rw [if_neg (fun k => hp (key.1 (e1.1 k)).2)]
      by_cases hr : (p0 ≤ x ∧ x ≤ p1 ∧ q0 ≤ y ∧ y ≤ q1) ∧ pno p0 q0 p1 x y < t
      · rw [if_pos hr, if_pos ⟨hr.1, by omega⟩]
      · rw [if_neg hr, if_neg (fun k => hr ⟨k.1, by omega⟩)]
theorem FI.all {a h : Nat} {xs ys : List Sb} {p0 q0 p1 q1 : Nat} {v : Int} (F : FI a h xs ys p0 q0 p1 q1 v (pcs p0 q0 p1 q1)) : gV ys a h = fillL (gV xs a h) a p0 q0 p1 q1 v := by
  obtain ⟨_, _, _, hv⟩ := F
  refine gV_filled fun x y hx hy => ?_
  rw [hv x y hx hy]
  by_cases hr : p0 ≤ x ∧ x ≤ p1 ∧ q0 ≤ y ∧ y ≤ q1
  · rw [if_pos ⟨hr, pno_lt hr⟩, if_pos hr]
  · rw [if_neg (fun k => hr k.1), if_neg hr]
end Go.Proofs.Ytkphmcaoioaglaa
