/-
  NARROWER THAN 'FOR EVERY INPUT', by the rows' own cells (each row's printed sentence says how): HorizonSteepest: laid · HorizonNil: laid · HorizonAround: laid · HorizonSees: laid · ChartMarks: laid.
  DERIVED. THE GIVEN ROWS OF THIS SEAT. 5 by the template 'for every input the law returns true; each argument reads behind the call as it read before'; 0 by the template 'total and deterministic' (their statements: YtgkkbeomhkggjaaDoorTotals.lean).
  GIVEN WITH THE SEED: the statements are not yours to turn. If you find one false, say at which input.
  Laid BY PROGRAM, IN A SANDBOX (cutbox-rows.mjs): the forced cells as the released guide's own fill.sh prints them over the translation ce50f3906c2eea71… (all of the seat's roots in one cut). By AI agents, Wed Nov 11 2026. No macro, syntax, notation, axiom, sorry.
-/
import Derived.Test.YtgkkbeomhkggjaaDoorChecked
import GoSem.PinnedTables
import GoSem.Claim
import GoSem.ClaimJoined
import GoSem.ClaimMapViews
import Derived.JoinedTies
import Derived.KernelRfl
namespace Go.Proofs.YtgkkbeomhkggjaaDoor
/- THE CELL 'sum', in the pinned program and in every row, IS THE sha256 OF THE DUMP (.gsa) THAT YtgkkbeomhkggjaaDoorProg.lean LOADS. Nothing in Lean hashes anything: it is a label: what it is worth is what the hold of that sum in a sandbox is worth. -/
noncomputable def Tryd.pinned : Pinned := { name := "ytgkkbeomhkggjaadoor", sum := "ce50f3906c2eea715430fd62ad0638cd3bb84f80bec10945228565e12fe69939", checked := Tryd.checked }
namespace Rows
def none {H : Type} : Left H := { results := [], args := [] }

/- WHAT THE LISTED PACKAGE-LEVEL VARIABLES READ AS WHEN THE CALL BEGINS. Each datum BY PROGRAM (the guide's laid-datum.mjs) off the statement by which the dump's own 'gosem.cut.vars' lays the variable. In a bare row this is a premise. The card (YtgkkbeomhkggjaaDoorCards.lean) ties it to the program's text. -/
def laid_hachure_horizon_steps {H : Type} : DataW H := .agg [.agg [.lit (.int .i64 0), .lit (.int .i64 (-1))], .agg [.lit (.int .i64 1), .lit (.int .i64 (-1))], .agg [.lit (.int .i64 1), .lit (.int .i64 0)], .agg [.lit (.int .i64 1), .lit (.int .i64 1)], .agg [.lit (.int .i64 0), .lit (.int .i64 1)], .agg [.lit (.int .i64 (-1)), .lit (.int .i64 1)], .agg [.lit (.int .i64 (-1)), .lit (.int .i64 0)], .agg [.lit (.int .i64 (-1)), .lit (.int .i64 (-1))]]
def laid_unicode_utf8_acceptRanges {H : Type} : DataW H := .agg [.agg [.lit (.int .u8 128), .lit (.int .u8 191)], .agg [.lit (.int .u8 160), .lit (.int .u8 191)], .agg [.lit (.int .u8 128), .lit (.int .u8 159)], .agg [.lit (.int .u8 144), .lit (.int .u8 191)], .agg [.lit (.int .u8 128), .lit (.int .u8 143)], .agg [.lit (.int .u8 0), .lit (.int .u8 0)], .agg [.lit (.int .u8 0), .lit (.int .u8 0)], .agg [.lit (.int .u8 0), .lit (.int .u8 0)], .agg [.lit (.int .u8 0), .lit (.int .u8 0)], .agg [.lit (.int .u8 0), .lit (.int .u8 0)], .agg [.lit (.int .u8 0), .lit (.int .u8 0)], .agg [.lit (.int .u8 0), .lit (.int .u8 0)], .agg [.lit (.int .u8 0), .lit (.int .u8 0)], .agg [.lit (.int .u8 0), .lit (.int .u8 0)], .agg [.lit (.int .u8 0), .lit (.int .u8 0)], .agg [.lit (.int .u8 0), .lit (.int .u8 0)]]
/-- One of Go's own tables, pinned by name: the form's constant. -/
def laid_unicode_utf8_first : DataW Unit := Go.Pinned.utf8First

/-- 'hachurelaw48.HorizonSteepest': WHATEVER THE INPUT: true; the input reads as it did. -/
def horizonSteepestSpec : ChangeSpec := { name := "horizonSteepest", fn := fun _ => fun
  | [d1, d2, d3, d4, d5, d6] => { results := [.lit (.bool true)], args := [d1, d2, d3, d4, d5, d6] }
  | _ => none }
def horizonSteepestRow : OpenClaim := { program := "ytgkkbeomhkggjaadoor", sum := "ce50f3906c2eea715430fd62ad0638cd3bb84f80bec10945228565e12fe69939", func := "hachure/hachurelaw48.HorizonSteepest", spec := "horizonSteepest", unfollowed := true, recurses := true, named := ["hachure/horizon.steps"], apart := false, laid := [("hachure/horizon.steps", laid_hachure_horizon_steps)] }
def HorizonSteepestSaid : Prop := horizonSteepestRow.holds Tryd.pinned (OpenSpec.ofChange horizonSteepestSpec)

/-- ITS FALSE NEIGHBOUR: 'it returns false'. Refute it at one input. -/
def horizonSteepestWrong : ChangeSpec := { name := "horizonSteepest", fn := fun _ => fun
  | [d1, d2, d3, d4, d5, d6] => { results := [.lit (.bool false)], args := [d1, d2, d3, d4, d5, d6] }
  | _ => none }
def HorizonSteepestWrongFalsely : Prop := horizonSteepestRow.holds Tryd.pinned (OpenSpec.ofChange horizonSteepestWrong)

/-- 'hachurelaw48.HorizonNil': WHATEVER THE INPUT: true; the input reads as it did. -/
def horizonNilSpec : ChangeSpec := { name := "horizonNil", fn := fun _ => fun
  | [d1, d2, d3] => { results := [.lit (.bool true)], args := [d1, d2, d3] }
  | _ => none }
def horizonNilRow : OpenClaim := { program := "ytgkkbeomhkggjaadoor", sum := "ce50f3906c2eea715430fd62ad0638cd3bb84f80bec10945228565e12fe69939", func := "hachure/hachurelaw48.HorizonNil", spec := "horizonNil", unfollowed := true, recurses := true, named := ["hachure/horizon.steps"], apart := false, laid := [("hachure/horizon.steps", laid_hachure_horizon_steps)] }
def HorizonNilSaid : Prop := horizonNilRow.holds Tryd.pinned (OpenSpec.ofChange horizonNilSpec)

/-- ITS FALSE NEIGHBOUR: 'it returns false'. Refute it at one input. -/
def horizonNilWrong : ChangeSpec := { name := "horizonNil", fn := fun _ => fun
  | [d1, d2, d3] => { results := [.lit (.bool false)], args := [d1, d2, d3] }
  | _ => none }
def HorizonNilWrongFalsely : Prop := horizonNilRow.holds Tryd.pinned (OpenSpec.ofChange horizonNilWrong)

/-- 'hachurelaw48.HorizonAround': WHATEVER THE INPUT: true; the input reads as it did. -/
def horizonAroundSpec : ChangeSpec := { name := "horizonAround", fn := fun _ => fun
  | [d1, d2, d3, d4, d5] => { results := [.lit (.bool true)], args := [d1, d2, d3, d4, d5] }
  | _ => none }
def horizonAroundRow : OpenClaim := { program := "ytgkkbeomhkggjaadoor", sum := "ce50f3906c2eea715430fd62ad0638cd3bb84f80bec10945228565e12fe69939", func := "hachure/hachurelaw48.HorizonAround", spec := "horizonAround", unfollowed := true, recurses := true, named := ["hachure/horizon.steps"], apart := false, laid := [("hachure/horizon.steps", laid_hachure_horizon_steps)] }
def HorizonAroundSaid : Prop := horizonAroundRow.holds Tryd.pinned (OpenSpec.ofChange horizonAroundSpec)

/-- ITS FALSE NEIGHBOUR: 'it returns false'. Refute it at one input. -/
def horizonAroundWrong : ChangeSpec := { name := "horizonAround", fn := fun _ => fun
  | [d1, d2, d3, d4, d5] => { results := [.lit (.bool false)], args := [d1, d2, d3, d4, d5] }
  | _ => none }
def HorizonAroundWrongFalsely : Prop := horizonAroundRow.holds Tryd.pinned (OpenSpec.ofChange horizonAroundWrong)

/-- 'hachurelaw48.HorizonSees': WHATEVER THE INPUT: true; the input reads as it did. -/
def horizonSeesSpec : ChangeSpec := { name := "horizonSees", fn := fun _ => fun
  | [d1, d2, d3, d4, d5, d6] => { results := [.lit (.bool true)], args := [d1, d2, d3, d4, d5, d6] }
  | _ => none }
def horizonSeesRow : OpenClaim := { program := "ytgkkbeomhkggjaadoor", sum := "ce50f3906c2eea715430fd62ad0638cd3bb84f80bec10945228565e12fe69939", func := "hachure/hachurelaw48.HorizonSees", spec := "horizonSees", unfollowed := true, recurses := true, named := ["hachure/horizon.steps"], apart := false, laid := [("hachure/horizon.steps", laid_hachure_horizon_steps)] }
def HorizonSeesSaid : Prop := horizonSeesRow.holds Tryd.pinned (OpenSpec.ofChange horizonSeesSpec)

/-- ITS FALSE NEIGHBOUR: 'it returns false'. Refute it at one input. -/
def horizonSeesWrong : ChangeSpec := { name := "horizonSees", fn := fun _ => fun
  | [d1, d2, d3, d4, d5, d6] => { results := [.lit (.bool false)], args := [d1, d2, d3, d4, d5, d6] }
  | _ => none }
def HorizonSeesWrongFalsely : Prop := horizonSeesRow.holds Tryd.pinned (OpenSpec.ofChange horizonSeesWrong)

/-- 'hachurelaw34.ChartMarks': WHATEVER THE INPUT: true; the input reads as it did. -/
def chartMarksSpec : ChangeSpec := { name := "chartMarks", fn := fun _ => fun
  | [d1, d2, d3] => { results := [.lit (.bool true)], args := [d1, d2, d3] }
  | _ => none }
def chartMarksRow : OpenClaim := { program := "ytgkkbeomhkggjaadoor", sum := "ce50f3906c2eea715430fd62ad0638cd3bb84f80bec10945228565e12fe69939", func := "hachure/hachurelaw34.ChartMarks", spec := "chartMarks", inPlace := ["internal/abi.NoEscape"], unfollowed := true, recurses := true, named := ["unicode/utf8.first", "unicode/utf8.acceptRanges"], apart := false, laid := [("unicode/utf8.acceptRanges", laid_unicode_utf8_acceptRanges), ("unicode/utf8.first", laid_unicode_utf8_first)] }
def ChartMarksSaid : Prop := chartMarksRow.holds Tryd.pinned (OpenSpec.ofChange chartMarksSpec)

/-- ITS FALSE NEIGHBOUR: 'it returns false'. Refute it at one input. -/
def chartMarksWrong : ChangeSpec := { name := "chartMarks", fn := fun _ => fun
  | [d1, d2, d3] => { results := [.lit (.bool false)], args := [d1, d2, d3] }
  | _ => none }
def ChartMarksWrongFalsely : Prop := chartMarksRow.holds Tryd.pinned (OpenSpec.ofChange chartMarksWrong)

/- THE SECOND FORM. 'bulk': how many values and letters a reading holds, each counted each time it is reached (what is shared counts as often as it is met; a slice's spare places count too). A statement '..UptoSaid' is the law's where the arguments, and the package variables that the reading takes, are together of bulk at most 1048576: NARROWER than '..Said'. Prove '..Said' where nothing that the law and all that it calls make is longer than what came in: it says more and counts as full. Else prove '..UptoSaid'. A law counts once. -/
mutual
def uptoBulk {H : Type} : DataW H → Nat
  | .lit (.string bytes) => bytes.length + 1
  | .lit _ => 1
  | .nil => 1
  | .ptr d => uptoBulk d + 1
  | .slice elems spare => uptoBulkAll elems + uptoBulkAll spare + 1
  | .agg parts => uptoBulkAll parts + 1
  | .iface _ d => uptoBulk d + 1
  | .map entries => uptoBulkEntries entries + 1
  | .held _ => 1
def uptoBulkAll {H : Type} : List (DataW H) → Nat
  | [] => 0
  | d :: r => uptoBulk d + uptoBulkAll r
def uptoBulkEntries {H : Type} : List (Lit × DataW H) → Nat
  | [] => 0
  | x :: r => uptoBulkEntry x + uptoBulkEntries r
def uptoBulkEntry {H : Type} : Lit × DataW H → Nat
  | (.string bytes, d) => bytes.length + uptoBulk d + 1
  | (_, d) => uptoBulk d + 1
 end
def uptoSmall : (H : Type) → List (DataW H) → Bool := fun _ ds => decide (uptoBulkAll ds ≤ 1048576)
def OpenSpec.upto (s : _root_.Go.ChangeSpec) : _root_.Go.OpenSpec := { _root_.Go.OpenSpec.ofChange s with cond := some uptoSmall }

/-- 'hachurelaw48.HorizonSteepest', WHERE WHAT IT READS IS OF BULK AT MOST 1048576: true; the input reads as it did. -/
def horizonSteepestUptoRow : OpenClaim := { program := "ytgkkbeomhkggjaadoor", sum := "ce50f3906c2eea715430fd62ad0638cd3bb84f80bec10945228565e12fe69939", func := "hachure/hachurelaw48.HorizonSteepest", spec := "horizonSteepest", unfollowed := true, recurses := true, named := ["hachure/horizon.steps"], apart := false, laid := [("hachure/horizon.steps", laid_hachure_horizon_steps)], narrowed := true }
def HorizonSteepestUptoSaid : Prop := horizonSteepestUptoRow.holds Tryd.pinned (OpenSpec.upto horizonSteepestSpec)

/-- 'hachurelaw48.HorizonNil', WHERE WHAT IT READS IS OF BULK AT MOST 1048576: true; the input reads as it did. -/
def horizonNilUptoRow : OpenClaim := { program := "ytgkkbeomhkggjaadoor", sum := "ce50f3906c2eea715430fd62ad0638cd3bb84f80bec10945228565e12fe69939", func := "hachure/hachurelaw48.HorizonNil", spec := "horizonNil", unfollowed := true, recurses := true, named := ["hachure/horizon.steps"], apart := false, laid := [("hachure/horizon.steps", laid_hachure_horizon_steps)], narrowed := true }
def HorizonNilUptoSaid : Prop := horizonNilUptoRow.holds Tryd.pinned (OpenSpec.upto horizonNilSpec)

/-- 'hachurelaw48.HorizonAround', WHERE WHAT IT READS IS OF BULK AT MOST 1048576: true; the input reads as it did. -/
def horizonAroundUptoRow : OpenClaim := { program := "ytgkkbeomhkggjaadoor", sum := "ce50f3906c2eea715430fd62ad0638cd3bb84f80bec10945228565e12fe69939", func := "hachure/hachurelaw48.HorizonAround", spec := "horizonAround", unfollowed := true, recurses := true, named := ["hachure/horizon.steps"], apart := false, laid := [("hachure/horizon.steps", laid_hachure_horizon_steps)], narrowed := true }
def HorizonAroundUptoSaid : Prop := horizonAroundUptoRow.holds Tryd.pinned (OpenSpec.upto horizonAroundSpec)

/-- 'hachurelaw48.HorizonSees', WHERE WHAT IT READS IS OF BULK AT MOST 1048576: true; the input reads as it did. -/
def horizonSeesUptoRow : OpenClaim := { program := "ytgkkbeomhkggjaadoor", sum := "ce50f3906c2eea715430fd62ad0638cd3bb84f80bec10945228565e12fe69939", func := "hachure/hachurelaw48.HorizonSees", spec := "horizonSees", unfollowed := true, recurses := true, named := ["hachure/horizon.steps"], apart := false, laid := [("hachure/horizon.steps", laid_hachure_horizon_steps)], narrowed := true }
def HorizonSeesUptoSaid : Prop := horizonSeesUptoRow.holds Tryd.pinned (OpenSpec.upto horizonSeesSpec)

/-- 'hachurelaw34.ChartMarks', WHERE WHAT IT READS IS OF BULK AT MOST 1048576: true; the input reads as it did. -/
def chartMarksUptoRow : OpenClaim := { program := "ytgkkbeomhkggjaadoor", sum := "ce50f3906c2eea715430fd62ad0638cd3bb84f80bec10945228565e12fe69939", func := "hachure/hachurelaw34.ChartMarks", spec := "chartMarks", inPlace := ["internal/abi.NoEscape"], unfollowed := true, recurses := true, named := ["unicode/utf8.first", "unicode/utf8.acceptRanges"], apart := false, laid := [("unicode/utf8.acceptRanges", laid_unicode_utf8_acceptRanges), ("unicode/utf8.first", laid_unicode_utf8_first)], narrowed := true }
def ChartMarksUptoSaid : Prop := chartMarksUptoRow.holds Tryd.pinned (OpenSpec.upto chartMarksSpec)

end Rows
end Go.Proofs.YtgkkbeomhkggjaaDoor
