/-
  DERIVED. GIVEN WITH THE SEED: THE CARDS: each row of YtbnjbgcadkdljaaGreatDoorRows.lean that lists a variable, with what it lists TIED to the program's text (the seventh form; the later family's looks); each row that meets fmt, with fmt's text TOLD by the authors' own Lean function (tested against real Go, not proved from fmt's source: count such statements apart). THE CARD IS WHAT COUNTS. Prove the row's statement (the work); the ties are given (YtbnjbgcadkdljaaGreatDoorTie.lean); close each card by the builder's one call (the guide's Derived/Test/ToyasCard.lean, 'card_holds'). Laid BY PROGRAM, IN A SANDBOX (cutbox-door.mjs). By AI agents, Wed Nov 11 2026. No macro, syntax, notation, axiom, sorry.
-/
import Derived.Test.YtbnjbgcadkdljaaGreatDoorRows
import GoSem.ClaimSeven
namespace Go.Proofs.YtbnjbgcadkdljaaGreatDoor
namespace Rows

/-- THE TIED CARD OF 'hachurelaw14.FileLoads'. -/
def fileLoadsCard : Claim7 := { stood := { row := fileLoadsRow, standIns := [], harness := (true, "29df7d14df8cea010783d8b66cce6e787d01e05227f5fce2ff6e25e3b547782f"), looks := true }, kinds := [], alts := [], laidByText := true, laidKinds := [.data], laidTests := true, laidLooks := .later }
def FileLoadsCardSaid : Prop := Claim7.holds Tryz.pinned (.plain (OpenSpec.ofChange fileLoadsSpec)) fileLoadsCard

/-- THE SECOND FORM's CARD OF 'hachurelaw14.FileLoads'. -/
def fileLoadsUptoCard : Claim7 := { stood := { row := fileLoadsUptoRow, standIns := [], harness := (true, "29df7d14df8cea010783d8b66cce6e787d01e05227f5fce2ff6e25e3b547782f"), looks := true }, kinds := [], alts := [], laidByText := true, laidKinds := [.data], laidTests := true, laidLooks := .later }
def FileLoadsUptoCardSaid : Prop := Claim7.holds Tryz.pinned (.plain (OpenSpec.upto fileLoadsSpec)) fileLoadsUptoCard
end Rows
end Go.Proofs.YtbnjbgcadkdljaaGreatDoor
