/- Layers 9 and 10: the reference's Paste and From; Stamp. -/
import Derived.Test.YtgkkbeomhkggjaaDoorMJ
set_option linter.unusedVariables false
set_option linter.unusedSimpArgs false
namespace Go.Proofs.YtgkkbeomhkggjaaDoor
open Go Go.RowKit
theorem kfref10_1 : (Tryd.prog.info? 27).bind (fun i => i.zero.map Value.cells) = some (List.toArray [(.int .i64 0), (.int .i64 0), (.slice none 0 0)]) := by kernel_rfl
theorem kfref10_2 : aggB Tryd.prog 90 4 = true := by kernel_rfl
theorem kfref10_3 : fldB Tryd.prog 27 0 0 = true := by kernel_rfl
theorem kfref10_4 : oneB Tryd.prog 2 = true := by kernel_rfl
theorem kfref10_5 : fldB Tryd.prog 27 1 1 = true := by kernel_rfl
theorem kfref10_7 : aggB Tryd.prog 27 3 = true := by kernel_rfl
theorem kfref10_8 : szB Tryd.prog 27 3 = true := by kernel_rfl
theorem kfref10_10 : elB Tryd.prog 22 1 = true := by kernel_rfl
theorem kfref10_11 : callB Tryd.prog 26 = true := by kernel_rfl
theorem kfref10_12 : fldB Tryd.prog 27 2 2 = true := by kernel_rfl
theorem kfref10_13 : oneB Tryd.prog 22 = true := by kernel_rfl
theorem kfref10_14 : (Tryd.prog.info? 2).map (fun i => (i.size, i.zero.map Value.cells)) = some (1, some (List.toArray [(.int .i64 0)])) := by kernel_rfl
theorem kfref10_15 : (Tryd.prog.info? 2).map (fun i => (i.zero.map (·.cells.toList), i.size, i.bytes)) = some (some [(.int .i64 0)], 1, 8) := by kernel_rfl
theorem kfref10_16 : fldB Tryd.prog 90 1 1 = true := by kernel_rfl
theorem kfref10_17 : fldB Tryd.prog 90 3 3 = true := by kernel_rfl
theorem kfref10_18 : fldB Tryd.prog 90 0 0 = true := by kernel_rfl
theorem kfref10_19 : fldB Tryd.prog 90 2 2 = true := by kernel_rfl
theorem kfref10_20 : szB Tryd.prog 2 1 = true := by kernel_rfl
theorem kfref10_24 : callB Tryd.prog 41 = true := by kernel_rfl
theorem kfref10_25 : aggB Tryd.prog 24 2 = true := by kernel_rfl
theorem kfref10_26 : callB Tryd.prog 54 = true := by kernel_rfl
theorem kfref10_27 : fldB Tryd.prog 24 0 0 = true := by kernel_rfl
theorem kfref10_28 : fldB Tryd.prog 24 1 1 = true := by kernel_rfl
theorem kfref10_29 : (Tryd.prog.info? 90).bind (fun i => i.zero.map Value.cells) = some (List.toArray [(.int .i64 0), (.int .i64 0), (.int .i64 0), (.int .i64 0)]) := by kernel_rfl
theorem kfref10_30 : szB Tryd.prog 90 4 = true := by kernel_rfl
theorem kfref10_31 : callB Tryd.prog 79 = true := by kernel_rfl
theorem layT_set {V L : List Int} {a h p0 q0 p1 q1 r c : Nat} (s : SzG a h) (hl : V.length = a * h) (h1 : p0 ≤ p1) (h2 : p1 < a) (h4 : q1 < h) (hr : q0 + r ≤ q1) (hc : c < p1 + 1 - p0) : (layT V a p0 q0 p1 q1 L (r * (p1 + 1 - p0) + c)).set ((q0 + r) * a + (p0 + c)) (nth L (r * (p1 + 1 - p0) + c)) = layT V a p0 q0 p1 q1 L (r * (p1 + 1 - p0) + (c + 1)) := by
  have hx : p0 + c < a := by omega
  have hy : q0 + r < h := by omega
  have hlt := cell_lt hx hy
  refine nth_ext (by rw [List.length_set, layT_len, layT_len]) fun m hm => ?_
  rw [List.length_set, layT_len] at hm
  rw [nth_put (by rw [layT_len, hl]; exact hlt), layT_at hm, layT_at hm]
  by_cases e : m = (q0 + r) * a + (p0 + c)
  · obtain ⟨d1, d2⟩ := div_of hx e
    have er : rk p0 q0 (p1 + 1 - p0) (m % a) (m / a) = r * (p1 + 1 - p0) + c := by
      rw [d1, d2]; unfold rk; rw [show q0 + r - q0 = r by omega, show p0 + c - p0 = c by omega]
    rw [if_pos e, er, d1, d2, if_pos ⟨by omega, by omega⟩]
  · rw [if_neg e]
    by_cases hR : p0 ≤ m % a ∧ m % a ≤ p1 ∧ q0 ≤ m / a ∧ m / a ≤ q1
    · have hne : ¬ rk p0 q0 (p1 + 1 - p0) (m % a) (m / a) = r * (p1 + 1 - p0) + c := fun k => by
        have := (rk_between (p0 := p0) (q0 := q0) (n := p1 + 1 - p0) (x := m % a) (y := m / a) (r := r) (c := c) (k := 1) hR.1 (by omega) hR.2.2.1 (by omega)).1 (by omega)
        have e1 := of_div (rfl : m / a = _) (rfl : m % a = _)
        rw [this.1, show m % a = p0 + c by omega] at e1
        exact e e1
      by_cases hlt2 : rk p0 q0 (p1 + 1 - p0) (m % a) (m / a) < r * (p1 + 1 - p0) + c
      · rw [if_pos ⟨hR, hlt2⟩, if_pos ⟨hR, by omega⟩]
      · rw [if_neg (fun k => hlt2 k.2), if_neg (fun k => hlt2 (by omega))]
    · rw [if_neg (fun k => hR k.1), if_neg (fun k => hR k.1)]

end Go.Proofs.YtgkkbeomhkggjaaDoor
