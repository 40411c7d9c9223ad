/- Layer 34: the document's answer, line by line. -/
import Derived.Test.YtgkkbeomhkggjaaDoorReads1
set_option linter.unusedVariables false
set_option linter.unusedSimpArgs false
namespace Go.Proofs.YtgkkbeomhkggjaaDoor
open Go Go.RowKit
theorem kfreads2_1 : (Tryd.prog.info? 27).bind (fun i => i.zero.map Value.cells) = some (List.toArray [(.int .i64 0), (.int .i64 0), (.slice none 0 0)]) := by kernel_rfl
theorem kfreads2_2 : szB Tryd.prog 27 3 = true := by kernel_rfl
theorem kfreads2_4 : aggB Tryd.prog 27 3 = true := by kernel_rfl
theorem kfreads2_5 : elB Tryd.prog 52 1 = true := by kernel_rfl
theorem kfreads2_6 : oneB Tryd.prog 9 = true := by kernel_rfl
theorem kfreads2_7 : callB Tryd.prog 21 = true := by kernel_rfl
theorem kfreads2_9 : fldB Tryd.prog 27 2 2 = true := by kernel_rfl
theorem kfreads2_10 : oneB Tryd.prog 22 = true := by kernel_rfl
theorem kfreads2_11 : (Tryd.prog.info? 2).map (fun i => (i.size, i.zero.map Value.cells)) = some (1, some (List.toArray [(.int .i64 0)])) := by kernel_rfl
theorem kfreads2_12 : (Tryd.prog.info? 2).map (fun i => (i.zero.map (·.cells.toList), i.size, i.bytes)) = some (some [(.int .i64 0)], 1, 8) := by kernel_rfl
theorem kfreads2_13 : szB Tryd.prog 22 1 = true := by kernel_rfl
theorem kfreads2_14 : fldB Tryd.prog 27 0 0 = true := by kernel_rfl
theorem kfreads2_15 : szB Tryd.prog 2 1 = true := by kernel_rfl
theorem kfreads2_16 : oneB Tryd.prog 2 = true := by kernel_rfl
theorem rcsJ_none {l : List Bd} (hR : RgtP l) {s dn : List Int} (hB : Byt s) {k : Nat} (h : rowM l s = (rcsR l ((rcs s).drop k)).map (dn ++ ·)) (hk : k < (rcs s).length) (hb : backPF l ((rcs s).getD k []) = none) : rowM l s = none := by
  rw [h, rcsR_drop hk, hb]; rfl
theorem rcsJ_some {l : List Bd} {s dn : List Int} {k : Nat} {f : Int} (h : rowM l s = (rcsR l ((rcs s).drop k)).map (dn ++ ·)) (hk : k < (rcs s).length) (hb : backPF l ((rcs s).getD k []) = some f) : rowM l s = (rcsR l ((rcs s).drop (k + 1))).map ((dn ++ [f]) ++ ·) := by
  rw [h, rcsR_drop hk, hb]
  cases rcsR l ((rcs s).drop (k + 1)) <;> simp
theorem rcsJ_end {l : List Bd} {s dn : List Int} {k : Nat} (h : rowM l s = (rcsR l ((rcs s).drop k)).map (dn ++ ·)) (hk : k = (rcs s).length) : rowM l s = some dn := by
  rw [h, hk, List.drop_length]; simp [rcsR]

end Go.Proofs.YtgkkbeomhkggjaaDoor
