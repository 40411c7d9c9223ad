/- What the card lists: the eight steps, as cells of the package variable. -/
import Derived.Test.YtgkkbeomhkggjaaDoorRows
import Derived.Test.YtgkkbeomhkggjaaDoorHor0
import Derived.ProofKit
import Derived.LaidMore
import Derived.OpenShut
import Derived.Stop.Joined
import Derived.MakeChecks
set_option linter.unusedVariables false
set_option linter.unusedSimpArgs false
namespace Go.Proofs.YtgkkbeomhkggjaaDoor
open Go Go.RowKit Go.ChangeShapes Go.WideShapes Go.ChangeAt
abbrev laidv : List (String × DataW Unit) := [("hachure/horizon.steps", Rows.laid_hachure_horizon_steps)]
theorem gSteps : Tryd.prog.globalNamed "hachure/horizon.steps" = some 0 := by kernel_rfl
theorem tSteps : (Tryd.prog.globals[0]?).map (·.type) = some 75 := by kernel_rfl
theorem own : ownKnob Tryd.prog.godebug = none := by kernel_rfl
theorem door_met (os : Os) (args : Array Value) : laidMetH Tryd.prog laidv ((World.doorLaid Tryd.prog 32 os).forCall (fun _ _ => 0) ⟨#[], args, []⟩).memory :=
  laidMetH_of_parts3 (fuel := 8) (laidMet_of_run' 8 (by kernel_rfl) (by kernel_rfl)) (by kernel_rfl) (by kernel_rfl)
section
variable {H : Type} {enc : TypeId × Value → H} {P : Program} {w : World}
theorem arr2 {k : IntKind} {base : Nat} {sp : Nat → Bool} {held : Bool} {t e ti : TypeId} {n fuel : Nat} {f0 f1 : Field} {cs : List Value} {D : DataW H} {p : List MemPlace} (ht : P.underlying t = some (.array n e)) (he : P.underlying e = some (.struct #[f0, f1]))
    (h0 : f0.type = ti) (h1 : f1.type = ti) (o0 : f0.offset = 0) (o1 : f1.offset = 1) (hi : P.underlying ti = some (.int k)) (c1 : P.cellsOf ti = 1) (c2 : P.cellsOf e = 2) (h : DataW.trod enc P w base sp held fuel t cs = some (D, p)) :
    ∃ L : List (DataW H), D = .agg L ∧ ∀ i, i < n → ∃ x y, cs[i * 2]? = some (.int k x) ∧ cs[i * 2 + 1]? = some (.int k y) ∧ L[i]? = some (.agg [.lit (.int k x), .lit (.int k y)]) := by
  obtain ⟨xs, m, _, hx, hl, hn, hel⟩ := DataW.trod_array ht h
  simp only [Prod.mk.injEq] at hx
  refine ⟨_, hx.1, fun i hi' => ?_⟩
  have hq := hel i hi'
  rw [c2, List.getElem?_eq_getElem (by omega)] at hq
  obtain ⟨y0, y1, m', e3, hl2, t0, t1⟩ := trod_struct2 he hq
  rw [h0, o0, c1, List.drop_zero] at t0
  rw [h1, o1, c1] at t1
  obtain ⟨x, e0, d0, _⟩ := DataW.trod_int hi t0
  obtain ⟨y, e1, d1, _⟩ := DataW.trod_int hi t1
  have g0 : ((cs.drop (i * 2)).take 2)[0]? = some (.int k x) := by
    have : (((cs.drop (i * 2)).take 2).take 1)[0]? = some (.int k x) := by rw [e0]; rfl
    rwa [List.getElem?_take_of_lt (by omega)] at this
  have g1 : ((cs.drop (i * 2)).take 2)[1]? = some (.int k y) := by
    have : ((((cs.drop (i * 2)).take 2).drop 1).take 1)[0]? = some (.int k y) := by rw [e1]; rfl
    rwa [List.getElem?_take_of_lt (by omega), List.getElem?_drop] at this
  rw [List.getElem?_take_of_lt (by omega), List.getElem?_drop] at g0 g1
  refine ⟨x, y, g0, g1, ?_⟩
  rw [List.getElem?_map, List.getElem?_eq_getElem (by omega), e3, d0, d1]
  rfl
end
theorem steps_at : ∀ i, i < 8 → ∀ L : List (DataW Unit), (Rows.laid_hachure_horizon_steps : DataW Unit) = .agg L → L[i]? = some (.agg [.lit (.int .i64 (dX i)), .lit (.int .i64 (dY i))])
  | 0, _, _, h | 1, _, _, h | 2, _, _, h | 3, _, _, h | 4, _, _, h | 5, _, _, h | 6, _, _, h | 7, _, _, h => by cases h; rfl
  | i + 8, h, _, _ => by omega
theorem of_laid {W : World} (h : laidMetH Tryd.prog laidv W) : Rd W (some ⟨0, 0, none⟩) (vi .i64 (pr dX dY 8)) := by
  rw [MakeChecks.laidMetH_plain _ _ _ (by kernel_rfl)] at h
  obtain ⟨ps, ⟨g0, t0, cs0, f0, p0, q0, hg0, ht0, hv0, hd0, _, _⟩, _, _⟩ := h
  obtain rfl := Option.some.inj (gSteps.symm.trans hg0)
  obtain rfl := Option.some.inj (tSteps.symm.trans ht0)
  obtain ⟨L, hL, hel⟩ := arr2 (k := .i64) Tryd.underlying75 Tryd.underlying24 rfl rfl rfl rfl Tryd.underlying2 (by kernel_rfl) (by kernel_rfl) hd0
  have hall : ∀ i, i < 8 → cs0[i * 2]? = some (.int .i64 (dX i)) ∧ cs0[i * 2 + 1]? = some (.int .i64 (dY i)) := fun i hi => by
    obtain ⟨x, y, e0, e1, e2⟩ := hel i hi
    rw [steps_at i hi L hL] at e2
    simp only [Option.some.injEq, DataW.agg.injEq, List.cons.injEq, DataW.lit.injEq, Lit.int.injEq, true_and, and_true] at e2
    obtain ⟨rfl, rfl⟩ := e2
    exact ⟨by rw [← Array.getElem?_toList]; exact e0, by rw [← Array.getElem?_toList]; exact e1⟩
  intro j u hu
  have hj : j < 16 := by
    rcases Nat.lt_or_ge j 16 with q | q
    · exact q
    · rw [List.getElem?_eq_none (by rw [vi_len, pr_len]; omega)] at hu; cases hu
  have hc : W.cell? ⟨0, j, none⟩ = some u := by
    rw [World.var?_cell hg0 hv0 j, ← hu]
    rcases Nat.mod_two_eq_zero_or_one j with q | q
    · obtain ⟨i, rfl⟩ : ∃ i, j = i * 2 := ⟨j / 2, by omega⟩
      rw [(hall i (by omega)).1, pr_at0 (by omega)]
    · obtain ⟨i, rfl⟩ : ∃ i, j = i * 2 + 1 := ⟨j / 2, by omega⟩
      rw [(hall i (by omega)).2, pr_at (f := dX) (g := dY) (n := 8) (j := i) (by omega) 1 _ rfl]
  refine ⟨_, _, rfl, ?_, by rw [Nat.zero_add]; exact hc⟩
  rcases Nat.lt_or_ge 0 W.heap.size with q | q
  · exact q
  · have : W.cell? ⟨0, j, none⟩ = none := by unfold World.cell?; rw [Array.getElem?_eq_none q]
    rw [this] at hc; cases hc
end Go.Proofs.YtgkkbeomhkggjaaDoor
