/- Layers 2 and 5: the references. -/
import Derived.Test.YtbnjbgcadkdljaaDoorRuns2
set_option linter.unusedVariables false
set_option linter.unusedSimpArgs false
namespace Go.Proofs.YtbnjbgcadkdljaaDoor
open Go Go.RowKit
theorem kfref5_1 : (Tryd.prog.info? 5).map (fun i => (i.size, i.zero.map Value.cells)) = some (1, some (List.toArray [(.int .u8 0)])) := by kernel_rfl
theorem kfref5_2 : (Tryd.prog.info? 5).map (fun i => (i.zero.map (·.cells.toList), i.size, i.bytes)) = some (some [(.int .u8 0)], 1, 1) := by kernel_rfl
theorem kfref5_3 : elB Tryd.prog 24 1 = true := by kernel_rfl
theorem kfref5_4 : oneB Tryd.prog 5 = true := by kernel_rfl
theorem kfref5_5 : elB Tryd.prog 39 1 = true := by kernel_rfl
theorem kfref5_6 : oneB Tryd.prog 2 = true := by kernel_rfl
theorem w128 {k : Nat} (h : k + 1 ≤ 9) : IntKind.u64.wrap ((128 : Int) ^ k * 128) = 128 ^ (k + 1) := by
  have := leb_fits (i := k + 1) (by omega) (c := 1) (by decide) (fun _ => by decide)
  rw [Int.one_mul] at this
  rw [← Int.pow_succ, u64w]; omega
theorem rfrom_bd {zs out : List Int} {i : Nat} (h : out ++ rfrom zs i = rfrom zs 0) : out.length ≤ 11 * zs.length := by
  have h1 := congrArg List.length h
  rw [List.length_append, rfrom_0] at h1
  have h2 := runsB_len (rnl zs 0)
  have h3 := (rn_len zs 0).2 rfl
  omega
theorem vi_rep1 {out : List Int} {m : Nat} : vi .i64 (out ++ List.replicate m 0) ++ [.int .i64 0] = vi .i64 (out ++ List.replicate (m + 1) 0) := by
  rw [vi_push, List.append_assoc, List.replicate_succ']

theorem leb_le {f : Nat} (h : f ≤ 9) : (2 : Int) * 128 ^ f ≤ 18446744073709551616 := by
  have := leb_fits h (c := 1) (by decide) (fun _ => by decide)
  have : f = 0 ∨ f = 1 ∨ f = 2 ∨ f = 3 ∨ f = 4 ∨ f = 5 ∨ f = 6 ∨ f = 7 ∨ f = 8 ∨ f = 9 := by omega
  rcases this with rfl | rfl | rfl | rfl | rfl | rfl | rfl | rfl | rfl | rfl <;> decide

end Go.Proofs.YtbnjbgcadkdljaaDoor
