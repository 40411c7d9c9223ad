/-
  No cell of these rows narrows 'for every input' (looked for: loops, veiled, ifaces, maps, wideKeys, modest, calm, conditions, laid).
  DERIVED. THE GIVEN ROWS OF THIS SEAT. 12 by the template 'for every input the law returns true; each argument reads behind the call as it read before'; 0 by the template 'total and deterministic' (their statements: YtbhmkpnihgjlnaaTotals.lean).
  GIVEN WITH THE SEED: the statements are not yours to turn. If you find one false, say at which input.
  Laid BY PROGRAM, IN A SANDBOX (cutbox-rows.mjs): the forced cells as the released guide's own fill.sh prints them over the translation 3f817d378d10328b… (all of the seat's roots in one cut). By AI agents, Wed Nov 11 2026. No macro, syntax, notation, axiom, sorry.
-/
import Derived.Test.YtbhmkpnihgjlnaaChecked
import GoSem.Claim
import GoSem.ClaimJoined
import GoSem.ClaimMapViews
import Derived.JoinedTies
import Derived.KernelRfl
namespace Go.Proofs.Ytbhmkpnihgjlnaa
/- THE CELL 'sum', in the pinned program and in every row, IS THE sha256 OF THE DUMP (.gsa) THAT YtbhmkpnihgjlnaaProg.lean LOADS. Nothing in Lean hashes anything: it is a label: what it is worth is what the hold of that sum in a sandbox is worth. -/
noncomputable def Try.pinned : Pinned := { name := "ytbhmkpnihgjlnaa", sum := "3f817d378d10328be2580b078426947241b6fb2dacdc39e469f193eab8744baf", checked := Try.checked }
namespace Rows
def none {H : Type} : Left H := { results := [], args := [] }

/-- 'hachurelaw43.DistSteps': WHATEVER THE INPUT: true; the input reads as it did. -/
def distStepsSpec : ChangeSpec := { name := "distSteps", fn := fun _ => fun
  | [d1, d2, d3, d4, d5] => { results := [.lit (.bool true)], args := [d1, d2, d3, d4, d5] }
  | _ => none }
def distStepsRow : OpenClaim := { program := "ytbhmkpnihgjlnaa", sum := "3f817d378d10328be2580b078426947241b6fb2dacdc39e469f193eab8744baf", func := "hachure/hachurelaw43.DistSteps", spec := "distSteps", unfollowed := true, recurses := true, apart := false }
def DistStepsSaid : Prop := distStepsRow.holds Try.pinned (OpenSpec.ofChange distStepsSpec)

/-- ITS FALSE NEIGHBOUR: 'it returns false'. Refute it at one input. -/
def distStepsWrong : ChangeSpec := { name := "distSteps", fn := fun _ => fun
  | [d1, d2, d3, d4, d5] => { results := [.lit (.bool false)], args := [d1, d2, d3, d4, d5] }
  | _ => none }
def DistStepsWrongFalsely : Prop := distStepsRow.holds Try.pinned (OpenSpec.ofChange distStepsWrong)

/-- 'hachurelaw47.MergeThree': WHATEVER THE INPUT: true; the input reads as it did. -/
def mergeThreeSpec : ChangeSpec := { name := "mergeThree", fn := fun _ => fun
  | [d1, d2, d3, d4, d5, d6] => { results := [.lit (.bool true)], args := [d1, d2, d3, d4, d5, d6] }
  | _ => none }
def mergeThreeRow : OpenClaim := { program := "ytbhmkpnihgjlnaa", sum := "3f817d378d10328be2580b078426947241b6fb2dacdc39e469f193eab8744baf", func := "hachure/hachurelaw47.MergeThree", spec := "mergeThree", unfollowed := true, recurses := true, apart := false }
def MergeThreeSaid : Prop := mergeThreeRow.holds Try.pinned (OpenSpec.ofChange mergeThreeSpec)

/-- ITS FALSE NEIGHBOUR: 'it returns false'. Refute it at one input. -/
def mergeThreeWrong : ChangeSpec := { name := "mergeThree", fn := fun _ => fun
  | [d1, d2, d3, d4, d5, d6] => { results := [.lit (.bool false)], args := [d1, d2, d3, d4, d5, d6] }
  | _ => none }
def MergeThreeWrongFalsely : Prop := mergeThreeRow.holds Try.pinned (OpenSpec.ofChange mergeThreeWrong)

/-- 'hachurelaw43.DistNearest': WHATEVER THE INPUT: true; the input reads as it did. -/
def distNearestSpec : ChangeSpec := { name := "distNearest", fn := fun _ => fun
  | [d1, d2, d3, d4, d5] => { results := [.lit (.bool true)], args := [d1, d2, d3, d4, d5] }
  | _ => none }
def distNearestRow : OpenClaim := { program := "ytbhmkpnihgjlnaa", sum := "3f817d378d10328be2580b078426947241b6fb2dacdc39e469f193eab8744baf", func := "hachure/hachurelaw43.DistNearest", spec := "distNearest", unfollowed := true, recurses := true, apart := false }
def DistNearestSaid : Prop := distNearestRow.holds Try.pinned (OpenSpec.ofChange distNearestSpec)

/-- ITS FALSE NEIGHBOUR: 'it returns false'. Refute it at one input. -/
def distNearestWrong : ChangeSpec := { name := "distNearest", fn := fun _ => fun
  | [d1, d2, d3, d4, d5] => { results := [.lit (.bool false)], args := [d1, d2, d3, d4, d5] }
  | _ => none }
def DistNearestWrongFalsely : Prop := distNearestRow.holds Try.pinned (OpenSpec.ofChange distNearestWrong)

/-- 'hachurelaw42.TurnCrops': WHATEVER THE INPUT: true; the input reads as it did. -/
def turnCropsSpec : ChangeSpec := { name := "turnCrops", fn := fun _ => fun
  | [d1, d2, d3, d4, d5] => { results := [.lit (.bool true)], args := [d1, d2, d3, d4, d5] }
  | _ => none }
def turnCropsRow : OpenClaim := { program := "ytbhmkpnihgjlnaa", sum := "3f817d378d10328be2580b078426947241b6fb2dacdc39e469f193eab8744baf", func := "hachure/hachurelaw42.TurnCrops", spec := "turnCrops", unfollowed := true, recurses := true, apart := false }
def TurnCropsSaid : Prop := turnCropsRow.holds Try.pinned (OpenSpec.ofChange turnCropsSpec)

/-- ITS FALSE NEIGHBOUR: 'it returns false'. Refute it at one input. -/
def turnCropsWrong : ChangeSpec := { name := "turnCrops", fn := fun _ => fun
  | [d1, d2, d3, d4, d5] => { results := [.lit (.bool false)], args := [d1, d2, d3, d4, d5] }
  | _ => none }
def TurnCropsWrongFalsely : Prop := turnCropsRow.holds Try.pinned (OpenSpec.ofChange turnCropsWrong)

/-- 'hachurelaw43.DistTo': WHATEVER THE INPUT: true; the input reads as it did. -/
def distToSpec : ChangeSpec := { name := "distTo", fn := fun _ => fun
  | [d1, d2, d3, d4, d5] => { results := [.lit (.bool true)], args := [d1, d2, d3, d4, d5] }
  | _ => none }
def distToRow : OpenClaim := { program := "ytbhmkpnihgjlnaa", sum := "3f817d378d10328be2580b078426947241b6fb2dacdc39e469f193eab8744baf", func := "hachure/hachurelaw43.DistTo", spec := "distTo", unfollowed := true, recurses := true, apart := false }
def DistToSaid : Prop := distToRow.holds Try.pinned (OpenSpec.ofChange distToSpec)

/-- ITS FALSE NEIGHBOUR: 'it returns false'. Refute it at one input. -/
def distToWrong : ChangeSpec := { name := "distTo", fn := fun _ => fun
  | [d1, d2, d3, d4, d5] => { results := [.lit (.bool false)], args := [d1, d2, d3, d4, d5] }
  | _ => none }
def DistToWrongFalsely : Prop := distToRow.holds Try.pinned (OpenSpec.ofChange distToWrong)

/-- 'hachurelaw47.MergeSides': WHATEVER THE INPUT: true; the input reads as it did. -/
def mergeSidesSpec : ChangeSpec := { name := "mergeSides", fn := fun _ => fun
  | [d1, d2, d3, d4, d5] => { results := [.lit (.bool true)], args := [d1, d2, d3, d4, d5] }
  | _ => none }
def mergeSidesRow : OpenClaim := { program := "ytbhmkpnihgjlnaa", sum := "3f817d378d10328be2580b078426947241b6fb2dacdc39e469f193eab8744baf", func := "hachure/hachurelaw47.MergeSides", spec := "mergeSides", unfollowed := true, recurses := true, apart := false }
def MergeSidesSaid : Prop := mergeSidesRow.holds Try.pinned (OpenSpec.ofChange mergeSidesSpec)

/-- ITS FALSE NEIGHBOUR: 'it returns false'. Refute it at one input. -/
def mergeSidesWrong : ChangeSpec := { name := "mergeSides", fn := fun _ => fun
  | [d1, d2, d3, d4, d5] => { results := [.lit (.bool false)], args := [d1, d2, d3, d4, d5] }
  | _ => none }
def MergeSidesWrongFalsely : Prop := mergeSidesRow.holds Try.pinned (OpenSpec.ofChange mergeSidesWrong)

/-- 'hachurelaw43.DistNil': WHATEVER THE INPUT: true; the input reads as it did. -/
def distNilSpec : ChangeSpec := { name := "distNil", fn := fun _ => fun
  | [d1, d2, d3] => { results := [.lit (.bool true)], args := [d1, d2, d3] }
  | _ => none }
def distNilRow : OpenClaim := { program := "ytbhmkpnihgjlnaa", sum := "3f817d378d10328be2580b078426947241b6fb2dacdc39e469f193eab8744baf", func := "hachure/hachurelaw43.DistNil", spec := "distNil", unfollowed := true, recurses := true, apart := false }
def DistNilSaid : Prop := distNilRow.holds Try.pinned (OpenSpec.ofChange distNilSpec)

/-- ITS FALSE NEIGHBOUR: 'it returns false'. Refute it at one input. -/
def distNilWrong : ChangeSpec := { name := "distNil", fn := fun _ => fun
  | [d1, d2, d3] => { results := [.lit (.bool false)], args := [d1, d2, d3] }
  | _ => none }
def DistNilWrongFalsely : Prop := distNilRow.holds Try.pinned (OpenSpec.ofChange distNilWrong)

/-- 'hachurelaw42.TurnTurns': WHATEVER THE INPUT: true; the input reads as it did. -/
def turnTurnsSpec : ChangeSpec := { name := "turnTurns", fn := fun _ => fun
  | [d1, d2, d3, d4] => { results := [.lit (.bool true)], args := [d1, d2, d3, d4] }
  | _ => none }
def turnTurnsRow : OpenClaim := { program := "ytbhmkpnihgjlnaa", sum := "3f817d378d10328be2580b078426947241b6fb2dacdc39e469f193eab8744baf", func := "hachure/hachurelaw42.TurnTurns", spec := "turnTurns", unfollowed := true, recurses := true, apart := false }
def TurnTurnsSaid : Prop := turnTurnsRow.holds Try.pinned (OpenSpec.ofChange turnTurnsSpec)

/-- ITS FALSE NEIGHBOUR: 'it returns false'. Refute it at one input. -/
def turnTurnsWrong : ChangeSpec := { name := "turnTurns", fn := fun _ => fun
  | [d1, d2, d3, d4] => { results := [.lit (.bool false)], args := [d1, d2, d3, d4] }
  | _ => none }
def TurnTurnsWrongFalsely : Prop := turnTurnsRow.holds Try.pinned (OpenSpec.ofChange turnTurnsWrong)

/-- 'hachurelaw42.TurnNil': WHATEVER THE INPUT: true; the input reads as it did. -/
def turnNilSpec : ChangeSpec := { name := "turnNil", fn := fun _ => fun
  | [d1, d2, d3] => { results := [.lit (.bool true)], args := [d1, d2, d3] }
  | _ => none }
def turnNilRow : OpenClaim := { program := "ytbhmkpnihgjlnaa", sum := "3f817d378d10328be2580b078426947241b6fb2dacdc39e469f193eab8744baf", func := "hachure/hachurelaw42.TurnNil", spec := "turnNil", unfollowed := true, recurses := true, apart := false }
def TurnNilSaid : Prop := turnNilRow.holds Try.pinned (OpenSpec.ofChange turnNilSpec)

/-- ITS FALSE NEIGHBOUR: 'it returns false'. Refute it at one input. -/
def turnNilWrong : ChangeSpec := { name := "turnNil", fn := fun _ => fun
  | [d1, d2, d3] => { results := [.lit (.bool false)], args := [d1, d2, d3] }
  | _ => none }
def TurnNilWrongFalsely : Prop := turnNilRow.holds Try.pinned (OpenSpec.ofChange turnNilWrong)

/-- 'hachurelaw47.MergeApply': WHATEVER THE INPUT: true; the input reads as it did. -/
def mergeApplySpec : ChangeSpec := { name := "mergeApply", fn := fun _ => fun
  | [d1, d2, d3, d4] => { results := [.lit (.bool true)], args := [d1, d2, d3, d4] }
  | _ => none }
def mergeApplyRow : OpenClaim := { program := "ytbhmkpnihgjlnaa", sum := "3f817d378d10328be2580b078426947241b6fb2dacdc39e469f193eab8744baf", func := "hachure/hachurelaw47.MergeApply", spec := "mergeApply", unfollowed := true, recurses := true, apart := false }
def MergeApplySaid : Prop := mergeApplyRow.holds Try.pinned (OpenSpec.ofChange mergeApplySpec)

/-- ITS FALSE NEIGHBOUR: 'it returns false'. Refute it at one input. -/
def mergeApplyWrong : ChangeSpec := { name := "mergeApply", fn := fun _ => fun
  | [d1, d2, d3, d4] => { results := [.lit (.bool false)], args := [d1, d2, d3, d4] }
  | _ => none }
def MergeApplyWrongFalsely : Prop := mergeApplyRow.holds Try.pinned (OpenSpec.ofChange mergeApplyWrong)

/-- 'hachurelaw42.TurnJoins': WHATEVER THE INPUT: true; the input reads as it did. -/
def turnJoinsSpec : ChangeSpec := { name := "turnJoins", fn := fun _ => fun
  | [d1, d2, d3, d4, d5, d6] => { results := [.lit (.bool true)], args := [d1, d2, d3, d4, d5, d6] }
  | _ => none }
def turnJoinsRow : OpenClaim := { program := "ytbhmkpnihgjlnaa", sum := "3f817d378d10328be2580b078426947241b6fb2dacdc39e469f193eab8744baf", func := "hachure/hachurelaw42.TurnJoins", spec := "turnJoins", unfollowed := true, recurses := true, apart := false }
def TurnJoinsSaid : Prop := turnJoinsRow.holds Try.pinned (OpenSpec.ofChange turnJoinsSpec)

/-- ITS FALSE NEIGHBOUR: 'it returns false'. Refute it at one input. -/
def turnJoinsWrong : ChangeSpec := { name := "turnJoins", fn := fun _ => fun
  | [d1, d2, d3, d4, d5, d6] => { results := [.lit (.bool false)], args := [d1, d2, d3, d4, d5, d6] }
  | _ => none }
def TurnJoinsWrongFalsely : Prop := turnJoinsRow.holds Try.pinned (OpenSpec.ofChange turnJoinsWrong)

/-- 'hachurelaw47.MergeSizes': WHATEVER THE INPUT: true; the input reads as it did. -/
def mergeSizesSpec : ChangeSpec := { name := "mergeSizes", fn := fun _ => fun
  | [d1, d2, d3, d4, d5, d6, d7] => { results := [.lit (.bool true)], args := [d1, d2, d3, d4, d5, d6, d7] }
  | _ => none }
def mergeSizesRow : OpenClaim := { program := "ytbhmkpnihgjlnaa", sum := "3f817d378d10328be2580b078426947241b6fb2dacdc39e469f193eab8744baf", func := "hachure/hachurelaw47.MergeSizes", spec := "mergeSizes", unfollowed := true, recurses := true, apart := false }
def MergeSizesSaid : Prop := mergeSizesRow.holds Try.pinned (OpenSpec.ofChange mergeSizesSpec)

/-- ITS FALSE NEIGHBOUR: 'it returns false'. Refute it at one input. -/
def mergeSizesWrong : ChangeSpec := { name := "mergeSizes", fn := fun _ => fun
  | [d1, d2, d3, d4, d5, d6, d7] => { results := [.lit (.bool false)], args := [d1, d2, d3, d4, d5, d6, d7] }
  | _ => none }
def MergeSizesWrongFalsely : Prop := mergeSizesRow.holds Try.pinned (OpenSpec.ofChange mergeSizesWrong)

/- THE SECOND FORM. 'bulk': how many values and letters a reading holds, each counted each time it is reached (what is shared counts as often as it is met; a slice's spare places count too). A statement '..UptoSaid' is the law's where the arguments, and the package variables that the reading takes, are together of bulk at most 1048576: NARROWER than '..Said'. Prove '..Said' where nothing that the law and all that it calls make is longer than what came in: it says more and counts as full. Else prove '..UptoSaid'. A law counts once. -/
mutual
def uptoBulk {H : Type} : DataW H → Nat
  | .lit (.string bytes) => bytes.length + 1
  | .lit _ => 1
  | .nil => 1
  | .ptr d => uptoBulk d + 1
  | .slice elems spare => uptoBulkAll elems + uptoBulkAll spare + 1
  | .agg parts => uptoBulkAll parts + 1
  | .iface _ d => uptoBulk d + 1
  | .map entries => uptoBulkEntries entries + 1
  | .held _ => 1
def uptoBulkAll {H : Type} : List (DataW H) → Nat
  | [] => 0
  | d :: r => uptoBulk d + uptoBulkAll r
def uptoBulkEntries {H : Type} : List (Lit × DataW H) → Nat
  | [] => 0
  | x :: r => uptoBulkEntry x + uptoBulkEntries r
def uptoBulkEntry {H : Type} : Lit × DataW H → Nat
  | (.string bytes, d) => bytes.length + uptoBulk d + 1
  | (_, d) => uptoBulk d + 1
 end
def uptoSmall : (H : Type) → List (DataW H) → Bool := fun _ ds => decide (uptoBulkAll ds ≤ 1048576)
def OpenSpec.upto (s : _root_.Go.ChangeSpec) : _root_.Go.OpenSpec := { _root_.Go.OpenSpec.ofChange s with cond := some uptoSmall }

/-- 'hachurelaw43.DistSteps', WHERE WHAT IT READS IS OF BULK AT MOST 1048576: true; the input reads as it did. -/
def distStepsUptoRow : OpenClaim := { program := "ytbhmkpnihgjlnaa", sum := "3f817d378d10328be2580b078426947241b6fb2dacdc39e469f193eab8744baf", func := "hachure/hachurelaw43.DistSteps", spec := "distSteps", unfollowed := true, recurses := true, apart := false, narrowed := true }
def DistStepsUptoSaid : Prop := distStepsUptoRow.holds Try.pinned (OpenSpec.upto distStepsSpec)

/-- 'hachurelaw47.MergeThree', WHERE WHAT IT READS IS OF BULK AT MOST 1048576: true; the input reads as it did. -/
def mergeThreeUptoRow : OpenClaim := { program := "ytbhmkpnihgjlnaa", sum := "3f817d378d10328be2580b078426947241b6fb2dacdc39e469f193eab8744baf", func := "hachure/hachurelaw47.MergeThree", spec := "mergeThree", unfollowed := true, recurses := true, apart := false, narrowed := true }
def MergeThreeUptoSaid : Prop := mergeThreeUptoRow.holds Try.pinned (OpenSpec.upto mergeThreeSpec)

/-- 'hachurelaw43.DistNearest', WHERE WHAT IT READS IS OF BULK AT MOST 1048576: true; the input reads as it did. -/
def distNearestUptoRow : OpenClaim := { program := "ytbhmkpnihgjlnaa", sum := "3f817d378d10328be2580b078426947241b6fb2dacdc39e469f193eab8744baf", func := "hachure/hachurelaw43.DistNearest", spec := "distNearest", unfollowed := true, recurses := true, apart := false, narrowed := true }
def DistNearestUptoSaid : Prop := distNearestUptoRow.holds Try.pinned (OpenSpec.upto distNearestSpec)

/-- 'hachurelaw42.TurnCrops', WHERE WHAT IT READS IS OF BULK AT MOST 1048576: true; the input reads as it did. -/
def turnCropsUptoRow : OpenClaim := { program := "ytbhmkpnihgjlnaa", sum := "3f817d378d10328be2580b078426947241b6fb2dacdc39e469f193eab8744baf", func := "hachure/hachurelaw42.TurnCrops", spec := "turnCrops", unfollowed := true, recurses := true, apart := false, narrowed := true }
def TurnCropsUptoSaid : Prop := turnCropsUptoRow.holds Try.pinned (OpenSpec.upto turnCropsSpec)

/-- 'hachurelaw43.DistTo', WHERE WHAT IT READS IS OF BULK AT MOST 1048576: true; the input reads as it did. -/
def distToUptoRow : OpenClaim := { program := "ytbhmkpnihgjlnaa", sum := "3f817d378d10328be2580b078426947241b6fb2dacdc39e469f193eab8744baf", func := "hachure/hachurelaw43.DistTo", spec := "distTo", unfollowed := true, recurses := true, apart := false, narrowed := true }
def DistToUptoSaid : Prop := distToUptoRow.holds Try.pinned (OpenSpec.upto distToSpec)

/-- 'hachurelaw47.MergeSides', WHERE WHAT IT READS IS OF BULK AT MOST 1048576: true; the input reads as it did. -/
def mergeSidesUptoRow : OpenClaim := { program := "ytbhmkpnihgjlnaa", sum := "3f817d378d10328be2580b078426947241b6fb2dacdc39e469f193eab8744baf", func := "hachure/hachurelaw47.MergeSides", spec := "mergeSides", unfollowed := true, recurses := true, apart := false, narrowed := true }
def MergeSidesUptoSaid : Prop := mergeSidesUptoRow.holds Try.pinned (OpenSpec.upto mergeSidesSpec)

/-- 'hachurelaw43.DistNil', WHERE WHAT IT READS IS OF BULK AT MOST 1048576: true; the input reads as it did. -/
def distNilUptoRow : OpenClaim := { program := "ytbhmkpnihgjlnaa", sum := "3f817d378d10328be2580b078426947241b6fb2dacdc39e469f193eab8744baf", func := "hachure/hachurelaw43.DistNil", spec := "distNil", unfollowed := true, recurses := true, apart := false, narrowed := true }
def DistNilUptoSaid : Prop := distNilUptoRow.holds Try.pinned (OpenSpec.upto distNilSpec)

/-- 'hachurelaw42.TurnTurns', WHERE WHAT IT READS IS OF BULK AT MOST 1048576: true; the input reads as it did. -/
def turnTurnsUptoRow : OpenClaim := { program := "ytbhmkpnihgjlnaa", sum := "3f817d378d10328be2580b078426947241b6fb2dacdc39e469f193eab8744baf", func := "hachure/hachurelaw42.TurnTurns", spec := "turnTurns", unfollowed := true, recurses := true, apart := false, narrowed := true }
def TurnTurnsUptoSaid : Prop := turnTurnsUptoRow.holds Try.pinned (OpenSpec.upto turnTurnsSpec)

/-- 'hachurelaw42.TurnNil', WHERE WHAT IT READS IS OF BULK AT MOST 1048576: true; the input reads as it did. -/
def turnNilUptoRow : OpenClaim := { program := "ytbhmkpnihgjlnaa", sum := "3f817d378d10328be2580b078426947241b6fb2dacdc39e469f193eab8744baf", func := "hachure/hachurelaw42.TurnNil", spec := "turnNil", unfollowed := true, recurses := true, apart := false, narrowed := true }
def TurnNilUptoSaid : Prop := turnNilUptoRow.holds Try.pinned (OpenSpec.upto turnNilSpec)

/-- 'hachurelaw47.MergeApply', WHERE WHAT IT READS IS OF BULK AT MOST 1048576: true; the input reads as it did. -/
def mergeApplyUptoRow : OpenClaim := { program := "ytbhmkpnihgjlnaa", sum := "3f817d378d10328be2580b078426947241b6fb2dacdc39e469f193eab8744baf", func := "hachure/hachurelaw47.MergeApply", spec := "mergeApply", unfollowed := true, recurses := true, apart := false, narrowed := true }
def MergeApplyUptoSaid : Prop := mergeApplyUptoRow.holds Try.pinned (OpenSpec.upto mergeApplySpec)

/-- 'hachurelaw42.TurnJoins', WHERE WHAT IT READS IS OF BULK AT MOST 1048576: true; the input reads as it did. -/
def turnJoinsUptoRow : OpenClaim := { program := "ytbhmkpnihgjlnaa", sum := "3f817d378d10328be2580b078426947241b6fb2dacdc39e469f193eab8744baf", func := "hachure/hachurelaw42.TurnJoins", spec := "turnJoins", unfollowed := true, recurses := true, apart := false, narrowed := true }
def TurnJoinsUptoSaid : Prop := turnJoinsUptoRow.holds Try.pinned (OpenSpec.upto turnJoinsSpec)

/-- 'hachurelaw47.MergeSizes', WHERE WHAT IT READS IS OF BULK AT MOST 1048576: true; the input reads as it did. -/
def mergeSizesUptoRow : OpenClaim := { program := "ytbhmkpnihgjlnaa", sum := "3f817d378d10328be2580b078426947241b6fb2dacdc39e469f193eab8744baf", func := "hachure/hachurelaw47.MergeSizes", spec := "mergeSizes", unfollowed := true, recurses := true, apart := false, narrowed := true }
def MergeSizesUptoSaid : Prop := mergeSizesUptoRow.holds Try.pinned (OpenSpec.upto mergeSizesSpec)

end Rows
end Go.Proofs.Ytbhmkpnihgjlnaa
