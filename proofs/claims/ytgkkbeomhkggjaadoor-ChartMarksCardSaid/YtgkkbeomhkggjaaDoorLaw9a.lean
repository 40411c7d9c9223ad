/- Layer 9: what its laws stand on; GridNil. -/
import Derived.Test.YtgkkbeomhkggjaaDoorMI
set_option linter.unusedVariables false
set_option linter.unusedSimpArgs false
namespace Go.Proofs.YtgkkbeomhkggjaaDoor
open Go Go.RowKit
theorem kflaw9a_2 : callB Tryd.prog 39 = true := by kernel_rfl
theorem kflaw9a_3 : callB Tryd.prog 41 = true := by kernel_rfl
theorem kflaw9a_4 : fldB Tryd.prog 27 0 0 = true := by kernel_rfl
theorem kflaw9a_5 : oneB Tryd.prog 2 = true := by kernel_rfl
theorem kflaw9a_6 : fldB Tryd.prog 27 1 1 = true := by kernel_rfl
theorem kflaw9a_7 : fldB Tryd.prog 27 2 2 = true := by kernel_rfl
theorem kflaw9a_8 : oneB Tryd.prog 22 = true := by kernel_rfl
theorem kflaw9a_9 : callB Tryd.prog 42 = true := by kernel_rfl
theorem kflaw9a_10 : callB Tryd.prog 27 = true := by kernel_rfl
theorem kflaw9a_11 : (Tryd.prog.info? 24).bind (fun i => i.zero.map Value.cells) = some (List.toArray [(.int .i64 0), (.int .i64 0)]) := by kernel_rfl
theorem kflaw9a_12 : callB Tryd.prog 28 = true := by kernel_rfl
theorem kflaw9a_16 : aggB Tryd.prog 24 2 = true := by kernel_rfl
theorem kflaw9a_17 : callB Tryd.prog 54 = true := by kernel_rfl
theorem kflaw9a_18 : aggB Tryd.prog 90 4 = true := by kernel_rfl
theorem kflaw9a_19 : (Tryd.prog.info? 90).bind (fun i => i.zero.map Value.cells) = some (List.toArray [(.int .i64 0), (.int .i64 0), (.int .i64 0), (.int .i64 0)]) := by kernel_rfl
theorem kflaw9a_20 : seqB Tryd.prog 90 4 = true := by kernel_rfl
theorem kflaw9a_21 : callB Tryd.prog 52 = true := by kernel_rfl
theorem kflaw9a_24 : elB Tryd.prog 22 1 = true := by kernel_rfl
theorem kflaw9a_25 : szB Tryd.prog 2 1 = true := by kernel_rfl
theorem kflaw9a_26 : (Tryd.prog.info? 2).map (fun i => (i.size, i.zero.map Value.cells)) = some (1, some (List.toArray [(.int .i64 0)])) := by kernel_rfl

theorem aw9 : gflV (fillV (List.replicate (17 * 1) 3) 17 1 16 0 16 0 9) 17 1 0 = (3, true) ∧ gflV (fillV (List.replicate (17 * 1) 3) 17 1 16 0 16 0 9) 17 1 1 = (9, true) ∧ fillC 17 1 16 0 16 0 9 = 0 ∧ (piecesL ⟨0, 0, ((17 : Nat) : Int) - 1, ((1 : Nat) : Int) - 1⟩).length = 2 := by decide +kernel

end Go.Proofs.YtgkkbeomhkggjaaDoor
