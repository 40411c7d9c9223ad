/-
  No cell of these rows narrows 'for every input' (looked for: loops, veiled, ifaces, maps, wideKeys, modest, calm, conditions, laid).
  DERIVED. THE GIVEN ROWS OF THIS SEAT. 9 by the template 'for every input the law returns true; each argument reads behind the call as it read before'; 0 by the template 'total and deterministic' (their statements: YtjhbomgfjffmdaaTotals.lean).
  GIVEN WITH THE SEED: the statements are not yours to turn. If you find one false, say at which input.
  Laid BY PROGRAM, IN A SANDBOX (cutbox-rows.mjs): the forced cells as the released guide's own fill.sh prints them over the translation cdb8b82be10182c5… (all of the seat's roots in one cut). By AI agents, Wed Nov 11 2026. No macro, syntax, notation, axiom, sorry.
-/
import Derived.Test.YtjhbomgfjffmdaaChecked
import GoSem.Claim
import GoSem.ClaimJoined
import GoSem.ClaimMapViews
import Derived.JoinedTies
import Derived.KernelRfl
namespace Go.Proofs.Ytjhbomgfjffmdaa
/- THE CELL 'sum', in the pinned program and in every row, IS THE sha256 OF THE DUMP (.gsa) THAT YtjhbomgfjffmdaaProg.lean LOADS. Nothing in Lean hashes anything: it is a label: what it is worth is what the hold of that sum in a sandbox is worth. -/
noncomputable def Try.pinned : Pinned := { name := "ytjhbomgfjffmdaa", sum := "cdb8b82be10182c54d4ba65b091c663dd969fd7161a91ef13c871e9b6472179f", checked := Try.checked }
namespace Rows
def none {H : Type} : Left H := { results := [], args := [] }

/-- 'hachurelaw23.RaySteps': WHATEVER THE INPUT: true; the input reads as it did. -/
def rayStepsSpec : ChangeSpec := { name := "raySteps", fn := fun _ => fun
  | [d1, d2] => { results := [.lit (.bool true)], args := [d1, d2] }
  | _ => none }
def rayStepsRow : OpenClaim := { program := "ytjhbomgfjffmdaa", sum := "cdb8b82be10182c54d4ba65b091c663dd969fd7161a91ef13c871e9b6472179f", func := "hachure/hachurelaw23.RaySteps", spec := "raySteps", apart := false }
def RayStepsSaid : Prop := rayStepsRow.holds Try.pinned (OpenSpec.ofChange rayStepsSpec)

/-- ITS FALSE NEIGHBOUR: 'it returns false'. Refute it at one input. -/
def rayStepsWrong : ChangeSpec := { name := "raySteps", fn := fun _ => fun
  | [d1, d2] => { results := [.lit (.bool false)], args := [d1, d2] }
  | _ => none }
def RayStepsWrongFalsely : Prop := rayStepsRow.holds Try.pinned (OpenSpec.ofChange rayStepsWrong)

/-- 'hachurelaw23.RayTurns': WHATEVER THE INPUT: true; the input reads as it did. -/
def rayTurnsSpec : ChangeSpec := { name := "rayTurns", fn := fun _ => fun
  | [d1, d2] => { results := [.lit (.bool true)], args := [d1, d2] }
  | _ => none }
def rayTurnsRow : OpenClaim := { program := "ytjhbomgfjffmdaa", sum := "cdb8b82be10182c54d4ba65b091c663dd969fd7161a91ef13c871e9b6472179f", func := "hachure/hachurelaw23.RayTurns", spec := "rayTurns", apart := false }
def RayTurnsSaid : Prop := rayTurnsRow.holds Try.pinned (OpenSpec.ofChange rayTurnsSpec)

/-- ITS FALSE NEIGHBOUR: 'it returns false'. Refute it at one input. -/
def rayTurnsWrong : ChangeSpec := { name := "rayTurns", fn := fun _ => fun
  | [d1, d2] => { results := [.lit (.bool false)], args := [d1, d2] }
  | _ => none }
def RayTurnsWrongFalsely : Prop := rayTurnsRow.holds Try.pinned (OpenSpec.ofChange rayTurnsWrong)

/-- 'hachurelaw23.RayCells': WHATEVER THE INPUT: true; the input reads as it did. -/
def rayCellsSpec : ChangeSpec := { name := "rayCells", fn := fun _ => fun
  | [d1, d2, d3] => { results := [.lit (.bool true)], args := [d1, d2, d3] }
  | _ => none }
def rayCellsRow : OpenClaim := { program := "ytjhbomgfjffmdaa", sum := "cdb8b82be10182c54d4ba65b091c663dd969fd7161a91ef13c871e9b6472179f", func := "hachure/hachurelaw23.RayCells", spec := "rayCells", apart := false }
def RayCellsSaid : Prop := rayCellsRow.holds Try.pinned (OpenSpec.ofChange rayCellsSpec)

/-- ITS FALSE NEIGHBOUR: 'it returns false'. Refute it at one input. -/
def rayCellsWrong : ChangeSpec := { name := "rayCells", fn := fun _ => fun
  | [d1, d2, d3] => { results := [.lit (.bool false)], args := [d1, d2, d3] }
  | _ => none }
def RayCellsWrongFalsely : Prop := rayCellsRow.holds Try.pinned (OpenSpec.ofChange rayCellsWrong)

/-- 'hachurelaw24.SlopeCompares': WHATEVER THE INPUT: true; the input reads as it did. -/
def slopeComparesSpec : ChangeSpec := { name := "slopeCompares", fn := fun _ => fun
  | [d1, d2] => { results := [.lit (.bool true)], args := [d1, d2] }
  | _ => none }
def slopeComparesRow : OpenClaim := { program := "ytjhbomgfjffmdaa", sum := "cdb8b82be10182c54d4ba65b091c663dd969fd7161a91ef13c871e9b6472179f", func := "hachure/hachurelaw24.SlopeCompares", spec := "slopeCompares", apart := false }
def SlopeComparesSaid : Prop := slopeComparesRow.holds Try.pinned (OpenSpec.ofChange slopeComparesSpec)

/-- ITS FALSE NEIGHBOUR: 'it returns false'. Refute it at one input. -/
def slopeComparesWrong : ChangeSpec := { name := "slopeCompares", fn := fun _ => fun
  | [d1, d2] => { results := [.lit (.bool false)], args := [d1, d2] }
  | _ => none }
def SlopeComparesWrongFalsely : Prop := slopeComparesRow.holds Try.pinned (OpenSpec.ofChange slopeComparesWrong)

/-- 'hachurelaw24.SlopeHides': WHATEVER THE INPUT: true; the input reads as it did. -/
def slopeHidesSpec : ChangeSpec := { name := "slopeHides", fn := fun _ => fun
  | [d1, d2, d3, d4, d5] => { results := [.lit (.bool true)], args := [d1, d2, d3, d4, d5] }
  | _ => none }
def slopeHidesRow : OpenClaim := { program := "ytjhbomgfjffmdaa", sum := "cdb8b82be10182c54d4ba65b091c663dd969fd7161a91ef13c871e9b6472179f", func := "hachure/hachurelaw24.SlopeHides", spec := "slopeHides", apart := false }
def SlopeHidesSaid : Prop := slopeHidesRow.holds Try.pinned (OpenSpec.ofChange slopeHidesSpec)

/-- ITS FALSE NEIGHBOUR: 'it returns false'. Refute it at one input. -/
def slopeHidesWrong : ChangeSpec := { name := "slopeHides", fn := fun _ => fun
  | [d1, d2, d3, d4, d5] => { results := [.lit (.bool false)], args := [d1, d2, d3, d4, d5] }
  | _ => none }
def SlopeHidesWrongFalsely : Prop := slopeHidesRow.holds Try.pinned (OpenSpec.ofChange slopeHidesWrong)

/-- 'hachurelaw24.SlopeSteepest': WHATEVER THE INPUT: true; the input reads as it did. -/
def slopeSteepestSpec : ChangeSpec := { name := "slopeSteepest", fn := fun _ => fun
  | [d] => { results := [.lit (.bool true)], args := [d] }
  | _ => none }
def slopeSteepestRow : OpenClaim := { program := "ytjhbomgfjffmdaa", sum := "cdb8b82be10182c54d4ba65b091c663dd969fd7161a91ef13c871e9b6472179f", func := "hachure/hachurelaw24.SlopeSteepest", spec := "slopeSteepest", apart := false }
def SlopeSteepestSaid : Prop := slopeSteepestRow.holds Try.pinned (OpenSpec.ofChange slopeSteepestSpec)

/-- ITS FALSE NEIGHBOUR: 'it returns false'. Refute it at one input. -/
def slopeSteepestWrong : ChangeSpec := { name := "slopeSteepest", fn := fun _ => fun
  | [d] => { results := [.lit (.bool false)], args := [d] }
  | _ => none }
def SlopeSteepestWrongFalsely : Prop := slopeSteepestRow.holds Try.pinned (OpenSpec.ofChange slopeSteepestWrong)

/-- 'hachurelaw35.PastRounds': WHATEVER THE INPUT: true; the input reads as it did. -/
def pastRoundsSpec : ChangeSpec := { name := "pastRounds", fn := fun _ => fun
  | [d] => { results := [.lit (.bool true)], args := [d] }
  | _ => none }
def pastRoundsRow : OpenClaim := { program := "ytjhbomgfjffmdaa", sum := "cdb8b82be10182c54d4ba65b091c663dd969fd7161a91ef13c871e9b6472179f", func := "hachure/hachurelaw35.PastRounds", spec := "pastRounds", unfollowed := true, recurses := true, apart := false }
def PastRoundsSaid : Prop := pastRoundsRow.holds Try.pinned (OpenSpec.ofChange pastRoundsSpec)

/-- ITS FALSE NEIGHBOUR: 'it returns false'. Refute it at one input. -/
def pastRoundsWrong : ChangeSpec := { name := "pastRounds", fn := fun _ => fun
  | [d] => { results := [.lit (.bool false)], args := [d] }
  | _ => none }
def PastRoundsWrongFalsely : Prop := pastRoundsRow.holds Try.pinned (OpenSpec.ofChange pastRoundsWrong)

/-- 'hachurelaw35.PastPlays': WHATEVER THE INPUT: true; the input reads as it did. -/
def pastPlaysSpec : ChangeSpec := { name := "pastPlays", fn := fun _ => fun
  | [d] => { results := [.lit (.bool true)], args := [d] }
  | _ => none }
def pastPlaysRow : OpenClaim := { program := "ytjhbomgfjffmdaa", sum := "cdb8b82be10182c54d4ba65b091c663dd969fd7161a91ef13c871e9b6472179f", func := "hachure/hachurelaw35.PastPlays", spec := "pastPlays", unfollowed := true, recurses := true, apart := false }
def PastPlaysSaid : Prop := pastPlaysRow.holds Try.pinned (OpenSpec.ofChange pastPlaysSpec)

/-- ITS FALSE NEIGHBOUR: 'it returns false'. Refute it at one input. -/
def pastPlaysWrong : ChangeSpec := { name := "pastPlays", fn := fun _ => fun
  | [d] => { results := [.lit (.bool false)], args := [d] }
  | _ => none }
def PastPlaysWrongFalsely : Prop := pastPlaysRow.holds Try.pinned (OpenSpec.ofChange pastPlaysWrong)

/-- 'hachurelaw35.PastNil': WHATEVER THE INPUT: true; the input reads as it did. -/
def pastNilSpec : ChangeSpec := { name := "pastNil", fn := fun _ => fun
  | [d] => { results := [.lit (.bool true)], args := [d] }
  | _ => none }
def pastNilRow : OpenClaim := { program := "ytjhbomgfjffmdaa", sum := "cdb8b82be10182c54d4ba65b091c663dd969fd7161a91ef13c871e9b6472179f", func := "hachure/hachurelaw35.PastNil", spec := "pastNil", unfollowed := true, recurses := true, apart := false }
def PastNilSaid : Prop := pastNilRow.holds Try.pinned (OpenSpec.ofChange pastNilSpec)

/-- ITS FALSE NEIGHBOUR: 'it returns false'. Refute it at one input. -/
def pastNilWrong : ChangeSpec := { name := "pastNil", fn := fun _ => fun
  | [d] => { results := [.lit (.bool false)], args := [d] }
  | _ => none }
def PastNilWrongFalsely : Prop := pastNilRow.holds Try.pinned (OpenSpec.ofChange pastNilWrong)

/- THE SECOND FORM. 'bulk': how many values and letters a reading holds, each counted each time it is reached (what is shared counts as often as it is met; a slice's spare places count too). A statement '..UptoSaid' is the law's where the arguments, and the package variables that the reading takes, are together of bulk at most 1048576: NARROWER than '..Said'. Prove '..Said' where nothing that the law and all that it calls make is longer than what came in: it says more and counts as full. Else prove '..UptoSaid'. A law counts once. -/
mutual
def uptoBulk {H : Type} : DataW H → Nat
  | .lit (.string bytes) => bytes.length + 1
  | .lit _ => 1
  | .nil => 1
  | .ptr d => uptoBulk d + 1
  | .slice elems spare => uptoBulkAll elems + uptoBulkAll spare + 1
  | .agg parts => uptoBulkAll parts + 1
  | .iface _ d => uptoBulk d + 1
  | .map entries => uptoBulkEntries entries + 1
  | .held _ => 1
def uptoBulkAll {H : Type} : List (DataW H) → Nat
  | [] => 0
  | d :: r => uptoBulk d + uptoBulkAll r
def uptoBulkEntries {H : Type} : List (Lit × DataW H) → Nat
  | [] => 0
  | x :: r => uptoBulkEntry x + uptoBulkEntries r
def uptoBulkEntry {H : Type} : Lit × DataW H → Nat
  | (.string bytes, d) => bytes.length + uptoBulk d + 1
  | (_, d) => uptoBulk d + 1
 end
def uptoSmall : (H : Type) → List (DataW H) → Bool := fun _ ds => decide (uptoBulkAll ds ≤ 1048576)
def OpenSpec.upto (s : _root_.Go.ChangeSpec) : _root_.Go.OpenSpec := { _root_.Go.OpenSpec.ofChange s with cond := some uptoSmall }

/-- 'hachurelaw23.RaySteps', WHERE WHAT IT READS IS OF BULK AT MOST 1048576: true; the input reads as it did. -/
def rayStepsUptoRow : OpenClaim := { program := "ytjhbomgfjffmdaa", sum := "cdb8b82be10182c54d4ba65b091c663dd969fd7161a91ef13c871e9b6472179f", func := "hachure/hachurelaw23.RaySteps", spec := "raySteps", apart := false, narrowed := true }
def RayStepsUptoSaid : Prop := rayStepsUptoRow.holds Try.pinned (OpenSpec.upto rayStepsSpec)

/-- 'hachurelaw23.RayTurns', WHERE WHAT IT READS IS OF BULK AT MOST 1048576: true; the input reads as it did. -/
def rayTurnsUptoRow : OpenClaim := { program := "ytjhbomgfjffmdaa", sum := "cdb8b82be10182c54d4ba65b091c663dd969fd7161a91ef13c871e9b6472179f", func := "hachure/hachurelaw23.RayTurns", spec := "rayTurns", apart := false, narrowed := true }
def RayTurnsUptoSaid : Prop := rayTurnsUptoRow.holds Try.pinned (OpenSpec.upto rayTurnsSpec)

/-- 'hachurelaw23.RayCells', WHERE WHAT IT READS IS OF BULK AT MOST 1048576: true; the input reads as it did. -/
def rayCellsUptoRow : OpenClaim := { program := "ytjhbomgfjffmdaa", sum := "cdb8b82be10182c54d4ba65b091c663dd969fd7161a91ef13c871e9b6472179f", func := "hachure/hachurelaw23.RayCells", spec := "rayCells", apart := false, narrowed := true }
def RayCellsUptoSaid : Prop := rayCellsUptoRow.holds Try.pinned (OpenSpec.upto rayCellsSpec)

/-- 'hachurelaw24.SlopeCompares', WHERE WHAT IT READS IS OF BULK AT MOST 1048576: true; the input reads as it did. -/
def slopeComparesUptoRow : OpenClaim := { program := "ytjhbomgfjffmdaa", sum := "cdb8b82be10182c54d4ba65b091c663dd969fd7161a91ef13c871e9b6472179f", func := "hachure/hachurelaw24.SlopeCompares", spec := "slopeCompares", apart := false, narrowed := true }
def SlopeComparesUptoSaid : Prop := slopeComparesUptoRow.holds Try.pinned (OpenSpec.upto slopeComparesSpec)

/-- 'hachurelaw24.SlopeHides', WHERE WHAT IT READS IS OF BULK AT MOST 1048576: true; the input reads as it did. -/
def slopeHidesUptoRow : OpenClaim := { program := "ytjhbomgfjffmdaa", sum := "cdb8b82be10182c54d4ba65b091c663dd969fd7161a91ef13c871e9b6472179f", func := "hachure/hachurelaw24.SlopeHides", spec := "slopeHides", apart := false, narrowed := true }
def SlopeHidesUptoSaid : Prop := slopeHidesUptoRow.holds Try.pinned (OpenSpec.upto slopeHidesSpec)

/-- 'hachurelaw24.SlopeSteepest', WHERE WHAT IT READS IS OF BULK AT MOST 1048576: true; the input reads as it did. -/
def slopeSteepestUptoRow : OpenClaim := { program := "ytjhbomgfjffmdaa", sum := "cdb8b82be10182c54d4ba65b091c663dd969fd7161a91ef13c871e9b6472179f", func := "hachure/hachurelaw24.SlopeSteepest", spec := "slopeSteepest", apart := false, narrowed := true }
def SlopeSteepestUptoSaid : Prop := slopeSteepestUptoRow.holds Try.pinned (OpenSpec.upto slopeSteepestSpec)

/-- 'hachurelaw35.PastRounds', WHERE WHAT IT READS IS OF BULK AT MOST 1048576: true; the input reads as it did. -/
def pastRoundsUptoRow : OpenClaim := { program := "ytjhbomgfjffmdaa", sum := "cdb8b82be10182c54d4ba65b091c663dd969fd7161a91ef13c871e9b6472179f", func := "hachure/hachurelaw35.PastRounds", spec := "pastRounds", unfollowed := true, recurses := true, apart := false, narrowed := true }
def PastRoundsUptoSaid : Prop := pastRoundsUptoRow.holds Try.pinned (OpenSpec.upto pastRoundsSpec)

/-- 'hachurelaw35.PastPlays', WHERE WHAT IT READS IS OF BULK AT MOST 1048576: true; the input reads as it did. -/
def pastPlaysUptoRow : OpenClaim := { program := "ytjhbomgfjffmdaa", sum := "cdb8b82be10182c54d4ba65b091c663dd969fd7161a91ef13c871e9b6472179f", func := "hachure/hachurelaw35.PastPlays", spec := "pastPlays", unfollowed := true, recurses := true, apart := false, narrowed := true }
def PastPlaysUptoSaid : Prop := pastPlaysUptoRow.holds Try.pinned (OpenSpec.upto pastPlaysSpec)

/-- 'hachurelaw35.PastNil', WHERE WHAT IT READS IS OF BULK AT MOST 1048576: true; the input reads as it did. -/
def pastNilUptoRow : OpenClaim := { program := "ytjhbomgfjffmdaa", sum := "cdb8b82be10182c54d4ba65b091c663dd969fd7161a91ef13c871e9b6472179f", func := "hachure/hachurelaw35.PastNil", spec := "pastNil", unfollowed := true, recurses := true, apart := false, narrowed := true }
def PastNilUptoSaid : Prop := pastNilUptoRow.holds Try.pinned (OpenSpec.upto pastNilSpec)

end Rows
end Go.Proofs.Ytjhbomgfjffmdaa
