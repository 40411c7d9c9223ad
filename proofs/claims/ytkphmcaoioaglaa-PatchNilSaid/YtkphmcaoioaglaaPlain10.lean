/- Layer 10 without the program: values laid into a rectangle. -/
import Derived.Test.YtkphmcaoioaglaaRef9b
set_option linter.unusedVariables false
set_option linter.unusedSimpArgs false
namespace Go.Proofs.Ytkphmcaoioaglaa
open Go Go.RowKit

theorem nth_put {V : List Int} {i j : Nat} {v : Int} (h : i < V.length) : nth (V.set i v) j = if j = i then v else nth V j := by
  unfold nth
  simp only [List.getD_eq_getElem?_getD, List.getElem?_set]
  by_cases e : i = j
  · subst e; simp [h]
  · rw [if_neg e, if_neg (fun k => e k.symm)]
instance (V : List Int) : Decidable (AllB V) := by unfold AllB; infer_instance
/-- the number of a cell in a rectangle's rows -/
def rk (p0 q0 n x y : Nat) : Nat := (y - q0) * n + (x - p0)
/-- the first t values are laid -/
def layT (V : List Int) (a p0 q0 p1 q1 : Nat) (L : List Int) (t : Nat) : List Int := (List.range V.length).map fun i =>
  if (p0 ≤ i % a ∧ i % a ≤ p1 ∧ q0 ≤ i / a ∧ i / a ≤ q1) ∧ rk p0 q0 (p1 + 1 - p0) (i % a) (i / a) < t then nth L (rk p0 q0 (p1 + 1 - p0) (i % a) (i / a)) else nth V i
theorem layT_len {V : List Int} {a p0 q0 p1 q1 : Nat} {L : List Int} {t : Nat} : (layT V a p0 q0 p1 q1 L t).length = V.length := by simp [layT]
theorem layT_at {V : List Int} {a p0 q0 p1 q1 : Nat} {L : List Int} {t i : Nat} (h : i < V.length) : nth (layT V a p0 q0 p1 q1 L t) i = if (p0 ≤ i % a ∧ i % a ≤ p1 ∧ q0 ≤ i / a ∧ i / a ≤ q1) ∧ rk p0 q0 (p1 + 1 - p0) (i % a) (i / a) < t then nth L (rk p0 q0 (p1 + 1 - p0) (i % a) (i / a)) else nth V i := by
  unfold layT; simp [nth, List.getD, h]
theorem layT_zero {V : List Int} {a p0 q0 p1 q1 : Nat} {L : List Int} : layT V a p0 q0 p1 q1 L 0 = V := nth_ext layT_len fun i hi => by
  rw [layT_len] at hi
  rw [layT_at hi, if_neg (by omega)]
theorem rk_between {p0 q0 n x y r c k : Nat} (hx : p0 ≤ x) (hxn : x - p0 < n) (hy : q0 ≤ y) (hc : c + k ≤ n) : (r * n + c ≤ rk p0 q0 n x y ∧ rk p0 q0 n x y < r * n + c + k) ↔ (y = q0 + r ∧ p0 + c ≤ x ∧ x < p0 + c + k) := by
  unfold rk
  obtain ⟨j, rfl⟩ : ∃ j, y = q0 + j := ⟨y - q0, by omega⟩
  rw [show q0 + j - q0 = j by omega]
  rcases Nat.lt_trichotomy j r with h | h | h
  · have : (j + 1) * n ≤ r * n := Nat.mul_le_mul_right _ h
    rw [Nat.succ_mul] at this
    omega
  · subst h; omega
  · have : (r + 1) * n ≤ j * n := Nat.mul_le_mul_right _ h
    rw [Nat.succ_mul] at this
    omega
theorem lay_step {V L : List Int} {a h p0 q0 p1 q1 i k : Nat} (s : SzG a h) (hl : V.length = a * h) (h1 : p0 ≤ p1) (h2 : p1 < a) (h3 : q0 ≤ q1) (h4 : q1 < h) (hi : i < (q1 + 1 - q0) * (p1 + 1 - p0)) (hk : 1 ≤ k) (hc : i % (p1 + 1 - p0) + k ≤ p1 + 1 - p0) (hv : ∀ j, j < k → nth L (i + j) = nth L i) (hB : B32 (nth L i)) :
    fillC a h (p0 + i % (p1 + 1 - p0) : Nat) (q0 + i / (p1 + 1 - p0) : Nat) ((p0 + i % (p1 + 1 - p0) + k - 1 : Nat) : Int) (q0 + i / (p1 + 1 - p0) : Nat) (nth L i) = 0 ∧ fillV (layT V a p0 q0 p1 q1 L i) a h (p0 + i % (p1 + 1 - p0) : Nat) (q0 + i / (p1 + 1 - p0) : Nat) ((p0 + i % (p1 + 1 - p0) + k - 1 : Nat) : Int) (q0 + i / (p1 + 1 - p0) : Nat) (nth L i) = layT V a p0 q0 p1 q1 L (i + k) := by
  obtain ⟨s1, s2, s3, s4⟩ := id s
  have hr : i / (p1 + 1 - p0) < q1 + 1 - q0 := Nat.div_lt_of_lt_mul (by rw [Nat.mul_comm]; exact hi)
  have ei := of_div (rfl : i / (p1 + 1 - p0) = _) (rfl : i % (p1 + 1 - p0) = _)
  generalize i % (p1 + 1 - p0) = c at *
  generalize i / (p1 + 1 - p0) = r at *
  have hw : withinC ((p0 + c : Nat) : Int) ((q0 + r : Nat) : Int) ((p0 + c + k - 1 : Nat) : Int) ((q0 + r : Nat) : Int) a h = 0 := by
    unfold withinC; simp only [insideB_not]
    rw [if_neg (by unfold wrap64; omega), if_neg (by omega), if_neg (by omega)]
  refine ⟨fillC_ok hw hB, ?_⟩
  rw [fillV_ok hw hB]
  refine nth_ext (by unfold fillL; rw [fl_len, layT_len, layT_len]) fun m hm => ?_
  unfold fillL at hm ⊢
  rw [fl_len, layT_len] at hm
  rw [fl_at (by rw [layT_len]; exact hm), layT_at hm, layT_at hm]
  have key : (p0 ≤ m % a ∧ m % a ≤ p1 ∧ q0 ≤ m / a ∧ m / a ≤ q1) → ((i ≤ rk p0 q0 (p1 + 1 - p0) (m % a) (m / a) ∧ rk p0 q0 (p1 + 1 - p0) (m % a) (m / a) < i + k) ↔ (m / a = q0 + r ∧ p0 + c ≤ m % a ∧ m % a < p0 + c + k)) := fun hR => by
    have := rk_between (p0 := p0) (q0 := q0) (n := p1 + 1 - p0) (x := m % a) (y := m / a) (r := r) (c := c) (k := k) hR.1 (by omega) hR.2.2.1 hc
    rw [← ei] at this
    exact this
  have hin : inF a (p0 + c) (p0 + c + k - 1) (q0 + r) (q0 + r + 1) (p0 + c) m ↔ (m / a = q0 + r ∧ p0 + c ≤ m % a ∧ m % a < p0 + c + k) := by
    unfold inF
    generalize m / a = y
    generalize m % a = x
    omega
  simp only [hin]
  by_cases hR : p0 ≤ m % a ∧ m % a ≤ p1 ∧ q0 ≤ m / a ∧ m / a ≤ q1
  · have k1 := key hR
    by_cases hF : m / a = q0 + r ∧ p0 + c ≤ m % a ∧ m % a < p0 + c + k
    · rw [if_pos hF]
      obtain ⟨e1, e2⟩ := k1.2 hF
      rw [if_pos ⟨hR, e2⟩]
      have := hv (rk p0 q0 (p1 + 1 - p0) (m % a) (m / a) - i) (by omega)
      rw [← this]
      congr 1; omega
    · rw [if_neg hF]
      have k2 : ¬ (i ≤ rk p0 q0 (p1 + 1 - p0) (m % a) (m / a) ∧ rk p0 q0 (p1 + 1 - p0) (m % a) (m / a) < i + k) := fun k => hF (k1.1 k)
      by_cases hlt : rk p0 q0 (p1 + 1 - p0) (m % a) (m / a) < i
      · rw [if_pos ⟨hR, hlt⟩, if_pos ⟨hR, by omega⟩]
      · rw [if_neg (fun k => hlt k.2), if_neg (fun k => k2 ⟨by omega, k.2⟩)]
  · rw [if_neg (fun hF => hR (by omega)), if_neg (fun k => hR k.1), if_neg (fun k => hR k.1)]
/-- all values laid -/
def layV (V : List Int) (a : Nat) (x0 y0 x1 y1 : Int) (L : List Int) : List Int := layT V a x0.toNat y0.toNat x1.toNat y1.toNat L L.length
theorem layV_nat {V L : List Int} {a p0 q0 p1 q1 : Nat} : layV V a p0 q0 p1 q1 L = layT V a p0 q0 p1 q1 L L.length := rfl
theorem layV_len {V L : List Int} {a : Nat} {x0 y0 x1 y1 : Int} : (layV V a x0 y0 x1 y1 L).length = V.length := layT_len
theorem layV_bd {V L : List Int} {a : Nat} {x0 y0 x1 y1 : Int} (hV : AllB V) (hL : AllB L) : AllB (layV V a x0 y0 x1 y1 L) := fun v hv => by
  unfold layV layT at hv
  obtain ⟨i, hi, rfl⟩ := List.mem_map.1 hv
  have hi' := List.mem_range.1 hi
  split
  · rename_i h
    exact hL.at_ h.2
  · exact hV.at_ hi'
theorem layV_all {V L : List Int} {a h : Nat} (s : SzG a h) (hV : V.length = a * h) (hL : L.length = a * h) : layV V a 0 0 ((a : Int) - 1) ((h : Int) - 1) L = L := by
  obtain ⟨s1, s2, s3, s4⟩ := id s
  refine nth_ext (by rw [layV_len, hV, hL]) fun i hi => ?_
  rw [layV_len] at hi
  unfold layV
  rw [layT_at hi]
  rw [hV] at hi
  have hx : i % a < a := Nat.mod_lt _ (by omega)
  have hy : i / a < h := Nat.div_lt_of_lt_mul hi
  have ei := of_div (rfl : i / a = _) (rfl : i % a = _)
  have e0 : (0 : Int).toNat = 0 := rfl
  have e1 : ((a : Int) - 1).toNat + 1 - 0 = a := by omega
  have er : rk (0 : Int).toNat (0 : Int).toNat (((a : Int) - 1).toNat + 1 - (0 : Int).toNat) (i % a) (i / a) = i := by
    rw [e0, e1]; unfold rk; rw [Nat.sub_zero, Nat.sub_zero]; exact ei.symm
  have b1 : i % a ≤ ((a : Int) - 1).toNat := by generalize i % a = x at *; omega
  have b2 : i / a ≤ ((h : Int) - 1).toNat := by generalize i / a = y at *; omega
  rw [er, if_pos ⟨⟨Nat.zero_le _, b1, Nat.zero_le _, b2⟩, by rw [hL]; exact hi⟩]
/-! the code of Paste, and of From -/
def pasteC (a h : Nat) (x0 y0 x1 y1 : Int) (L : List Int) : Int := if withinC x0 y0 x1 y1 a h = 0 then (if (L.length : Int) = areaI x0 y0 x1 y1 then (if AllB L then 0 else 7) else 6) else withinC x0 y0 x1 y1 a h
def pasteV (V : List Int) (a h : Nat) (x0 y0 x1 y1 : Int) (L : List Int) : List Int := if pasteC a h x0 y0 x1 y1 L = 0 then layV V a x0 y0 x1 y1 L else V
theorem pasteC_w {a h : Nat} {x0 y0 x1 y1 : Int} {L : List Int} (hw : ¬ withinC x0 y0 x1 y1 a h = 0) : pasteC a h x0 y0 x1 y1 L = withinC x0 y0 x1 y1 a h := if_neg hw
theorem pasteC_n {a h : Nat} {x0 y0 x1 y1 : Int} {L : List Int} (hw : withinC x0 y0 x1 y1 a h = 0) (hn : ¬ (L.length : Int) = areaI x0 y0 x1 y1) : pasteC a h x0 y0 x1 y1 L = 6 := by unfold pasteC; rw [if_pos hw, if_neg hn]
theorem pasteC_v {a h : Nat} {x0 y0 x1 y1 : Int} {L : List Int} (hw : withinC x0 y0 x1 y1 a h = 0) (hn : (L.length : Int) = areaI x0 y0 x1 y1) (hv : ¬ AllB L) : pasteC a h x0 y0 x1 y1 L = 7 := by unfold pasteC; rw [if_pos hw, if_pos hn, if_neg hv]
theorem pasteC_ok {a h : Nat} {x0 y0 x1 y1 : Int} {L : List Int} (hw : withinC x0 y0 x1 y1 a h = 0) (hn : (L.length : Int) = areaI x0 y0 x1 y1) (hv : AllB L) : pasteC a h x0 y0 x1 y1 L = 0 := by unfold pasteC; rw [if_pos hw, if_pos hn, if_pos hv]
theorem pasteV_no {V : List Int} {a h : Nat} {x0 y0 x1 y1 : Int} {L : List Int} (hc : ¬ pasteC a h x0 y0 x1 y1 L = 0) : pasteV V a h x0 y0 x1 y1 L = V := if_neg hc
theorem pasteV_ok {V : List Int} {a h : Nat} {x0 y0 x1 y1 : Int} {L : List Int} (hc : pasteC a h x0 y0 x1 y1 L = 0) : pasteV V a h x0 y0 x1 y1 L = layV V a x0 y0 x1 y1 L := if_pos hc
theorem pasteV_len {V : List Int} {a h : Nat} {x0 y0 x1 y1 : Int} {L : List Int} : (pasteV V a h x0 y0 x1 y1 L).length = V.length := by unfold pasteV; split <;> simp [layV_len]
def fromC (a h : Int) (L : List Int) : Int := if 1 ≤ a ∧ a ≤ 1024 ∧ 1 ≤ h ∧ h ≤ 1024 then (if (L.length : Int) = a * h then (if AllB L then 0 else 7) else 6) else 3
theorem area_all {a h : Nat} (s : SzG a h) : areaI 0 0 ((a : Int) - 1) ((h : Int) - 1) = ((a * h : Nat) : Int) := by
  obtain ⟨s1, s2, s3, s4⟩ := s
  unfold areaI
  rw [if_pos ⟨by omega, by omega, by omega, by omega, by omega, by omega⟩, show (a : Int) - 1 - 0 + 1 = a by omega, show (h : Int) - 1 - 0 + 1 = h by omega, Int.natCast_mul]
theorem fromC_in {a h : Nat} {L : List Int} (s : SzG a h) : fromC a h L = pasteC a h 0 0 ((a : Int) - 1) ((h : Int) - 1) L := by
  obtain ⟨s1, s2, s3, s4⟩ := id s
  unfold fromC pasteC
  rw [if_pos ⟨by omega, by omega, by omega, by omega⟩, if_pos (within_all s), area_all s, Int.natCast_mul]
theorem fromC_sz {a h : Int} {L : List Int} (s : ¬ (1 ≤ a ∧ a ≤ 1024 ∧ 1 ≤ h ∧ h ≤ 1024)) : fromC a h L = 3 := if_neg s
theorem fromC_zero {a h : Int} {L : List Int} (hc : fromC a h L = 0) : ∃ p q : Nat, a = p ∧ h = q ∧ SzG p q ∧ L.length = p * q ∧ AllB L := by
  unfold fromC at hc
  split at hc
  · rename_i hs
    split at hc
    · rename_i hn
      split at hc
      · rename_i hv
        refine ⟨a.toNat, h.toNat, by omega, by omega, ⟨by omega, by omega, by omega, by omega⟩, ?_, hv⟩
        have h1 : ((a.toNat * h.toNat : Nat) : Int) = a * h := by rw [Int.natCast_mul, Int.toNat_of_nonneg (by omega), Int.toNat_of_nonneg (by omega)]
        omega
      · cases hc
    · cases hc
  · cases hc
theorem fromC_ok {a h : Nat} {L : List Int} (s : SzG a h) (hl : L.length = a * h) (hv : AllB L) : fromC a h L = 0 := by
  rw [fromC_in s]; exact pasteC_ok (within_all s) (by rw [area_all s, hl]) hv
/-! the first value that may not be -/
def ixB (L : List Int) : Int := match (List.range L.length).find? (fun j => decide (¬ B32 (nth L j))) with | some j => (j : Int) | none => -1
theorem ixB_at {L : List Int} {i : Nat} (h : ∀ j, j < i → B32 (nth L j)) (hi : i < L.length) (hne : ¬ B32 (nth L i)) : ixB L = (i : Int) := by
  have : (List.range L.length).find? (fun j => decide (¬ B32 (nth L j))) = some i := by
    rw [List.find?_range_eq_some]
    refine ⟨by simpa using hne, List.mem_range.2 hi, fun j hj => ?_⟩
    simpa using h j hj
  unfold ixB; rw [this]
theorem allB_nth {L : List Int} (h : ∀ j, j < L.length → B32 (nth L j)) : AllB L := fun x hx => by
  obtain ⟨j, hj, rfl⟩ := List.mem_iff_getElem.1 hx
  have := h j hj
  rwa [show nth L j = L[j] by simp [nth, List.getD, hj]] at this
theorem ixB_no {L : List Int} (h : ∀ j, j < L.length → B32 (nth L j)) : ixB L = -1 := by
  have : (List.range L.length).find? (fun j => decide (¬ B32 (nth L j))) = none := by
    rw [List.find?_eq_none]
    intro j hj
    simpa using h j (List.mem_range.1 hj)
  unfold ixB; rw [this]
theorem ixB_iff {L : List Int} : ixB L ≥ 0 ↔ ¬ AllB L := by
  constructor
  · intro h hA
    rw [ixB_no fun j hj => hA.at_ hj] at h
    omega
  · intro h
    unfold ixB
    split
    · omega
    · rename_i hf
      rw [List.find?_eq_none] at hf
      exact absurd (allB_nth fun j hj => by simpa using hf j (List.mem_range.2 hj)) h
end Go.Proofs.Ytkphmcaoioaglaa
