/- The place of an element of an array behind a pointer (a package variable's, too). -/
import Derived.Test.YtbnjbgcadkdljaaGreatDoorMC
set_option linter.unusedVariables false
set_option linter.unusedSimpArgs false
namespace Go.Proofs.YtbnjbgcadkdljaaGreatDoor
open Go Go.RowKit
def elA (P : Program) (t : TypeId) (len size : Nat) : Bool := match P.underlying t with | some (.array l e) => l == len && ((P.info? e).map (·.size) == some size) | _ => false
section
variable {P : Program} {n : Nat} {L : Fr} {o : Oper} {w : World}
theorem y_iag {t : TypeId} {x y : Operand} {k : IntKind} {len size b i p : Nat} {q : Int} (ho : o.op = .indexAddr t x y) (hx : ev L x = some (.pointer (some ⟨b, 0, none⟩))) (hy : ev L y = some (.int k q)) (ht : elA P t len size = true)
    (hq : q = (i : Int)) (hi : i < len) (hp : i * size = p) : Yd P n L o (pt (some ⟨b, 0, none⟩) p) w := fun a ha => by
  subst hp; subst hq
  unfold elA at ht
  split at ht
  · rename_i l e hu
    simp only [Bool.and_eq_true, beq_iff_eq] at ht
    obtain ⟨rfl, ht⟩ := ht
    cases hie : P.info? e with
    | none => rw [hie] at ht; cases ht
    | some inf =>
      rw [hie] at ht
      have hsz : inf.size = size := by simpa using ht
      unfold execOp
      have h0 : (0 : Int) ≤ (i : Int) ∧ (i : Int) < (l : Int) := by omega
      simp [ho, ha.ev hx, ha.ev hy, Instr.indexAt, Instr.sureAddr, asIntOf, run_underlying hu w, h0, sizeOf, typeInfo, hie, hsz, pt, add_at]
      omega
  · cases ht
end
end Go.Proofs.YtbnjbgcadkdljaaGreatDoor
