/- What the card lists: the sixteen halves, as cells of the package variable. -/
import Derived.Test.YtbnjbgcadkdljaaGreatDoorRows
import Derived.Test.YtbnjbgcadkdljaaGreatDoorCrc1
import Derived.ProofKit
import Derived.LaidMore
import Derived.OpenShut
import Derived.Stop.Joined
import Derived.MakeChecks
set_option linter.unusedVariables false
set_option linter.unusedSimpArgs false
namespace Go.Proofs.YtbnjbgcadkdljaaGreatDoor
open Go Go.RowKit Go.ChangeShapes Go.WideShapes Go.ChangeAt
abbrev laidv : List (String × DataW Unit) := [("hachure/crc.halves", Rows.laid_hachure_crc_halves)]
theorem gHalves : Tryz.prog.globalNamed "hachure/crc.halves" = some 0 := by kernel_rfl
theorem tHalves : (Tryz.prog.globals[0]?).map (·.type) = some 145 := by kernel_rfl
theorem own : ownKnob Tryz.prog.godebug = none := by kernel_rfl
theorem door_met (os : Os) (args : Array Value) : laidMetH Tryz.prog laidv ((World.doorLaid Tryz.prog 32 os).forCall (fun _ _ => 0) ⟨#[], args, []⟩).memory :=
  laidMetH_of_parts3 (fuel := 8) (laidMet_of_run' 8 (by kernel_rfl) (by kernel_rfl)) (by kernel_rfl) (by kernel_rfl)
section
variable {H : Type} {enc : TypeId × Value → H} {P : Program} {w : World}
theorem arr1 {k : IntKind} {base : Nat} {sp : Nat → Bool} {held : Bool} {t e : TypeId} {n fuel : Nat} {cs : List Value} {D : DataW H} {p : List MemPlace} (ht : P.underlying t = some (.array n e)) (he : P.underlying e = some (.int k))
    (c1 : P.cellsOf e = 1) (h : DataW.trod enc P w base sp held fuel t cs = some (D, p)) :
    ∃ L : List (DataW H), D = .agg L ∧ ∀ i, i < n → ∃ x, cs[i]? = some (.int k x) ∧ L[i]? = some (.lit (.int k x)) := by
  obtain ⟨xs, m, _, hx, hl, hn, hel⟩ := DataW.trod_array ht h
  simp only [Prod.mk.injEq] at hx
  refine ⟨_, hx.1, fun i hi' => ?_⟩
  have hq := hel i hi'
  rw [c1, List.getElem?_eq_getElem (by omega), Nat.mul_one] at hq
  obtain ⟨x, e0, d0, _⟩ := DataW.trod_int he hq
  refine ⟨x, ?_, ?_⟩
  · have : ((cs.drop i).take 1)[0]? = some (.int k x) := by rw [e0]; rfl
    rwa [List.getElem?_take_of_lt (by omega), List.getElem?_drop, Nat.add_zero] at this
  · rw [List.getElem?_map, List.getElem?_eq_getElem (by omega), Option.map_some, d0]
end
theorem halves_at : ∀ i, i < 16 → ∀ L : List (DataW Unit), (Rows.laid_hachure_crc_halves : DataW Unit) = .agg L → L[i]? = some (.lit (.int .u32 (nth tblI i)))
  | 0, _, _, h | 1, _, _, h | 2, _, _, h | 3, _, _, h | 4, _, _, h | 5, _, _, h | 6, _, _, h | 7, _, _, h | 8, _, _, h | 9, _, _, h | 10, _, _, h | 11, _, _, h | 12, _, _, h | 13, _, _, h | 14, _, _, h | 15, _, _, h => by cases h; rfl
  | i + 16, h, _, _ => by omega
theorem of_laid {W : World} (h : laidMetH Tryz.prog laidv W) : Rd W (some ⟨0, 0, none⟩) (vi .u32 tblI) := by
  rw [MakeChecks.laidMetH_plain _ _ _ (by kernel_rfl)] at h
  obtain ⟨ps, ⟨g0, t0, cs0, f0, p0, q0, hg0, ht0, hv0, hd0, _, _⟩, _, _⟩ := h
  obtain rfl := Option.some.inj (gHalves.symm.trans hg0)
  obtain rfl := Option.some.inj (tHalves.symm.trans ht0)
  obtain ⟨L, hL, hel⟩ := arr1 (k := .u32) Tryz.underlying145 Tryz.underlying83 (by kernel_rfl) hd0
  have hall : ∀ i, i < 16 → cs0[i]? = some (.int .u32 (nth tblI i)) := fun i hi => by
    obtain ⟨x, e0, e2⟩ := hel i hi
    rw [halves_at i hi L hL] at e2
    simp only [Option.some.injEq, DataW.lit.injEq, Lit.int.injEq, true_and] at e2
    obtain rfl := e2
    rw [← Array.getElem?_toList]; exact e0
  intro j u hu
  have hj : j < 16 := by
    rcases Nat.lt_or_ge j 16 with q | q
    · exact q
    · rw [List.getElem?_eq_none (by rw [vi_len]; exact q)] at hu; cases hu
  have hc : W.cell? ⟨0, j, none⟩ = some u := by
    rw [World.var?_cell hg0 hv0 j, ← hu, hall j hj, vi_get (show j < tblI.length from hj)]
  refine ⟨_, _, rfl, ?_, by rw [Nat.zero_add]; exact hc⟩
  rcases Nat.lt_or_ge 0 W.heap.size with q | q
  · exact q
  · have : W.cell? ⟨0, j, none⟩ = none := by unfold World.cell?; rw [Array.getElem?_eq_none q]
    rw [this] at hc; cases hc
end Go.Proofs.YtbnjbgcadkdljaaGreatDoor
