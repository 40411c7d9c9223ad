/- Layer 2: a number of bytes. -/
import Derived.Test.YtbnjbgcadkdljaaDoorPlain5b
import Derived.Test.YtbnjbgcadkdljaaDoorRuns1
set_option linter.unusedVariables false
set_option linter.unusedSimpArgs false
namespace Go.Proofs.YtbnjbgcadkdljaaDoor
open Go Go.RowKit
theorem kfleb1_1 : elB Tryd.prog 24 1 = true := by kernel_rfl
theorem kfleb1_2 : oneB Tryd.prog 5 = true := by kernel_rfl
def lebQ (bs : List Int) (a : Nat) (u x e : Int) : Prop := (∃ m, lacc 0 0 (bs.drop a) = .ok (u, m) ∧ x = (a : Int) + m ∧ e = 0) ∨ (lacc 0 0 (bs.drop a) = .error e ∧ u = 0 ∧ x = 0 ∧ e ≠ 0)
theorem lebQ_err {bs : List Int} {a : Nat} {e : Int} (h : lacc 0 0 (bs.drop a) = .error e) (he : e ≠ 0) : lebQ bs a 0 0 e := .inr ⟨h, rfl, rfl, he⟩
theorem vi_sl {k : IntKind} {bs : List Int} {n a i : Nat} (hn : bs.length = n) (hi : a + i < n) : (((vi k bs).take (n * 1)).drop (a * 1))[i]? = some (.int k (nth bs (a + i))) := by
  rw [Nat.mul_one, Nat.mul_one, List.take_of_length_le (by rw [vi_len]; omega), List.getElem?_drop]
  exact vi_get (by omega)
theorem okB_nth {bs : List Int} {i : Nat} (h : okB bs) (hi : i < bs.length) : 0 ≤ nth bs i ∧ nth bs i ≤ 255 := h _ (nth_mem hi)

end Go.Proofs.YtbnjbgcadkdljaaDoor
