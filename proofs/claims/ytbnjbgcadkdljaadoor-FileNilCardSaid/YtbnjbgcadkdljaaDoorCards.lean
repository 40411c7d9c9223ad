/-
  DERIVED. GIVEN WITH THE SEED: THE CARDS: each row of YtbnjbgcadkdljaaDoorRows.lean that lists a variable, with what it lists TIED to the program's text (the seventh form; the later family's looks); each row that meets fmt, with fmt's text TOLD by the authors' own Lean function (tested against real Go, not proved from fmt's source: count such statements apart). THE CARD IS WHAT COUNTS. Prove the row's statement (the work); the ties are given (YtbnjbgcadkdljaaDoorTie.lean); close each card by the builder's one call (the guide's Derived/Test/ToyasCard.lean, 'card_holds'). Laid BY PROGRAM, IN A SANDBOX (cutbox-door.mjs). By AI agents, Wed Nov 11 2026. No macro, syntax, notation, axiom, sorry.
-/
import Derived.Test.YtbnjbgcadkdljaaDoorRows
import GoSem.ClaimSeven
namespace Go.Proofs.YtbnjbgcadkdljaaDoor
namespace Rows

/-- THE TIED CARD OF 'hachurelaw14.FileNil'. -/
def fileNilCard : Claim7 := { stood := { row := fileNilRow, standIns := [], harness := (true, "5c97a54d1b441f857957c4e0a9e4fd67b94040c1a8e8b17099bd1821862c91a4"), looks := false }, kinds := [], alts := [], laidByText := true, laidKinds := [.data], laidTests := true, laidLooks := .later }
def FileNilCardSaid : Prop := Claim7.holds Tryd.pinned (.plain (OpenSpec.ofChange fileNilSpec)) fileNilCard

/-- THE SECOND FORM's CARD OF 'hachurelaw14.FileNil'. -/
def fileNilUptoCard : Claim7 := { stood := { row := fileNilUptoRow, standIns := [], harness := (true, "5c97a54d1b441f857957c4e0a9e4fd67b94040c1a8e8b17099bd1821862c91a4"), looks := false }, kinds := [], alts := [], laidByText := true, laidKinds := [.data], laidTests := true, laidLooks := .later }
def FileNilUptoCardSaid : Prop := Claim7.holds Tryd.pinned (.plain (OpenSpec.upto fileNilSpec)) fileNilUptoCard
end Rows
end Go.Proofs.YtbnjbgcadkdljaaDoor
