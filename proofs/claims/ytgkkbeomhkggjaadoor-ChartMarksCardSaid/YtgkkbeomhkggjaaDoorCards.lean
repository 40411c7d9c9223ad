/-
  DERIVED. GIVEN WITH THE SEED: THE CARDS: each row of YtgkkbeomhkggjaaDoorRows.lean that lists a variable, with what it lists TIED to the program's text (the seventh form; the later family's looks); each row that meets fmt, with fmt's text TOLD by the authors' own Lean function (tested against real Go, not proved from fmt's source: count such statements apart). THE CARD IS WHAT COUNTS. Prove the row's statement (the work); the ties are given (YtgkkbeomhkggjaaDoorTie.lean); close each card by the builder's one call (the guide's Derived/Test/ToyasCard.lean, 'card_holds'). Laid BY PROGRAM, IN A SANDBOX (cutbox-door.mjs). By AI agents, Wed Nov 11 2026. No macro, syntax, notation, axiom, sorry.
-/
import Derived.Test.YtgkkbeomhkggjaaDoorRows
import GoSem.ClaimSeven
namespace Go.Proofs.YtgkkbeomhkggjaaDoor
namespace Rows

/-- THE TIED CARD OF 'hachurelaw48.HorizonSteepest'. -/
def horizonSteepestCard : Claim7 := { stood := { row := horizonSteepestRow, standIns := [], harness := (true, "e7b3a90b1b2ed14253d350dfc619fc7d636204ace0bc5655f2c19fc4b1ac1edf"), looks := true }, kinds := [], alts := [], laidByText := true, laidKinds := [.data], laidTests := true, laidLooks := .later }
def HorizonSteepestCardSaid : Prop := Claim7.holds Tryd.pinned (.plain (OpenSpec.ofChange horizonSteepestSpec)) horizonSteepestCard

/-- THE TIED CARD OF 'hachurelaw48.HorizonNil'. -/
def horizonNilCard : Claim7 := { stood := { row := horizonNilRow, standIns := [], harness := (true, "e7b3a90b1b2ed14253d350dfc619fc7d636204ace0bc5655f2c19fc4b1ac1edf"), looks := true }, kinds := [], alts := [], laidByText := true, laidKinds := [.data], laidTests := true, laidLooks := .later }
def HorizonNilCardSaid : Prop := Claim7.holds Tryd.pinned (.plain (OpenSpec.ofChange horizonNilSpec)) horizonNilCard

/-- THE TIED CARD OF 'hachurelaw48.HorizonAround'. -/
def horizonAroundCard : Claim7 := { stood := { row := horizonAroundRow, standIns := [], harness := (true, "e7b3a90b1b2ed14253d350dfc619fc7d636204ace0bc5655f2c19fc4b1ac1edf"), looks := true }, kinds := [], alts := [], laidByText := true, laidKinds := [.data], laidTests := true, laidLooks := .later }
def HorizonAroundCardSaid : Prop := Claim7.holds Tryd.pinned (.plain (OpenSpec.ofChange horizonAroundSpec)) horizonAroundCard

/-- THE TIED CARD OF 'hachurelaw48.HorizonSees'. -/
def horizonSeesCard : Claim7 := { stood := { row := horizonSeesRow, standIns := [], harness := (true, "e7b3a90b1b2ed14253d350dfc619fc7d636204ace0bc5655f2c19fc4b1ac1edf"), looks := true }, kinds := [], alts := [], laidByText := true, laidKinds := [.data], laidTests := true, laidLooks := .later }
def HorizonSeesCardSaid : Prop := Claim7.holds Tryd.pinned (.plain (OpenSpec.ofChange horizonSeesSpec)) horizonSeesCard

/-- THE TIED CARD OF 'hachurelaw34.ChartMarks'. -/
def chartMarksCard : Claim7 := { stood := { row := chartMarksRow, standIns := [], harness := (true, "e7b3a90b1b2ed14253d350dfc619fc7d636204ace0bc5655f2c19fc4b1ac1edf"), looks := true }, kinds := [], alts := [], laidByText := true, laidKinds := [.data, .pinned], laidTests := true, laidLooks := .later }
def ChartMarksCardSaid : Prop := Claim7.holds Tryd.pinned (.plain (OpenSpec.ofChange chartMarksSpec)) chartMarksCard

/-- THE SECOND FORM's CARD OF 'hachurelaw48.HorizonSteepest'. -/
def horizonSteepestUptoCard : Claim7 := { stood := { row := horizonSteepestUptoRow, standIns := [], harness := (true, "e7b3a90b1b2ed14253d350dfc619fc7d636204ace0bc5655f2c19fc4b1ac1edf"), looks := true }, kinds := [], alts := [], laidByText := true, laidKinds := [.data], laidTests := true, laidLooks := .later }
def HorizonSteepestUptoCardSaid : Prop := Claim7.holds Tryd.pinned (.plain (OpenSpec.upto horizonSteepestSpec)) horizonSteepestUptoCard

/-- THE SECOND FORM's CARD OF 'hachurelaw48.HorizonNil'. -/
def horizonNilUptoCard : Claim7 := { stood := { row := horizonNilUptoRow, standIns := [], harness := (true, "e7b3a90b1b2ed14253d350dfc619fc7d636204ace0bc5655f2c19fc4b1ac1edf"), looks := true }, kinds := [], alts := [], laidByText := true, laidKinds := [.data], laidTests := true, laidLooks := .later }
def HorizonNilUptoCardSaid : Prop := Claim7.holds Tryd.pinned (.plain (OpenSpec.upto horizonNilSpec)) horizonNilUptoCard

/-- THE SECOND FORM's CARD OF 'hachurelaw48.HorizonAround'. -/
def horizonAroundUptoCard : Claim7 := { stood := { row := horizonAroundUptoRow, standIns := [], harness := (true, "e7b3a90b1b2ed14253d350dfc619fc7d636204ace0bc5655f2c19fc4b1ac1edf"), looks := true }, kinds := [], alts := [], laidByText := true, laidKinds := [.data], laidTests := true, laidLooks := .later }
def HorizonAroundUptoCardSaid : Prop := Claim7.holds Tryd.pinned (.plain (OpenSpec.upto horizonAroundSpec)) horizonAroundUptoCard

/-- THE SECOND FORM's CARD OF 'hachurelaw48.HorizonSees'. -/
def horizonSeesUptoCard : Claim7 := { stood := { row := horizonSeesUptoRow, standIns := [], harness := (true, "e7b3a90b1b2ed14253d350dfc619fc7d636204ace0bc5655f2c19fc4b1ac1edf"), looks := true }, kinds := [], alts := [], laidByText := true, laidKinds := [.data], laidTests := true, laidLooks := .later }
def HorizonSeesUptoCardSaid : Prop := Claim7.holds Tryd.pinned (.plain (OpenSpec.upto horizonSeesSpec)) horizonSeesUptoCard

/-- THE SECOND FORM's CARD OF 'hachurelaw34.ChartMarks'. -/
def chartMarksUptoCard : Claim7 := { stood := { row := chartMarksUptoRow, standIns := [], harness := (true, "e7b3a90b1b2ed14253d350dfc619fc7d636204ace0bc5655f2c19fc4b1ac1edf"), looks := true }, kinds := [], alts := [], laidByText := true, laidKinds := [.data, .pinned], laidTests := true, laidLooks := .later }
def ChartMarksUptoCardSaid : Prop := Claim7.holds Tryd.pinned (.plain (OpenSpec.upto chartMarksSpec)) chartMarksUptoCard
end Rows
end Go.Proofs.YtgkkbeomhkggjaaDoor
