/-
  No cell of these rows narrows 'for every input' (looked for: loops, veiled, ifaces, maps, wideKeys, modest, calm, conditions, laid).
  DERIVED. THE GIVEN ROWS OF THIS SEAT. 11 by the template 'for every input the law returns true; each argument reads behind the call as it read before'; 0 by the template 'total and deterministic' (their statements: YtcklknlbmbinoaaTotals.lean).
  GIVEN WITH THE SEED: the statements are not yours to turn. If you find one false, say at which input.
  Laid BY PROGRAM, IN A SANDBOX (cutbox-rows.mjs): the forced cells as the released guide's own fill.sh prints them over the translation 61389024c20885b8… (all of the seat's roots in one cut). By AI agents, Wed Nov 11 2026. No macro, syntax, notation, axiom, sorry.
-/
import Derived.Test.YtcklknlbmbinoaaChecked
import GoSem.Claim
import GoSem.ClaimJoined
import GoSem.ClaimMapViews
import Derived.JoinedTies
import Derived.KernelRfl
namespace Go.Proofs.Ytcklknlbmbinoaa
/- THE CELL 'sum', in the pinned program and in every row, IS THE sha256 OF THE DUMP (.gsa) THAT YtcklknlbmbinoaaProg.lean LOADS. Nothing in Lean hashes anything: it is a label: what it is worth is what the hold of that sum in a sandbox is worth. -/
noncomputable def Try.pinned : Pinned := { name := "ytcklknlbmbinoaa", sum := "61389024c20885b8982d4c11df76667904e04c55c354317e454bb8e80bb53af9", checked := Try.checked }
namespace Rows
def none {H : Type} : Left H := { results := [], args := [] }

/-- 'hachurelaw04.PredGuesses': WHATEVER THE INPUT: true; the input reads as it did. -/
def predGuessesSpec : ChangeSpec := { name := "predGuesses", fn := fun _ => fun
  | [d1, d2, d3, d4] => { results := [.lit (.bool true)], args := [d1, d2, d3, d4] }
  | _ => none }
def predGuessesRow : OpenClaim := { program := "ytcklknlbmbinoaa", sum := "61389024c20885b8982d4c11df76667904e04c55c354317e454bb8e80bb53af9", func := "hachure/hachurelaw04.PredGuesses", spec := "predGuesses", apart := false }
def PredGuessesSaid : Prop := predGuessesRow.holds Try.pinned (OpenSpec.ofChange predGuessesSpec)

/-- ITS FALSE NEIGHBOUR: 'it returns false'. Refute it at one input. -/
def predGuessesWrong : ChangeSpec := { name := "predGuesses", fn := fun _ => fun
  | [d1, d2, d3, d4] => { results := [.lit (.bool false)], args := [d1, d2, d3, d4] }
  | _ => none }
def PredGuessesWrongFalsely : Prop := predGuessesRow.holds Try.pinned (OpenSpec.ofChange predGuessesWrong)

/-- 'hachurelaw07.RectAsks': WHATEVER THE INPUT: true; the input reads as it did. -/
def rectAsksSpec : ChangeSpec := { name := "rectAsks", fn := fun _ => fun
  | [d1, d2, d3, d4] => { results := [.lit (.bool true)], args := [d1, d2, d3, d4] }
  | _ => none }
def rectAsksRow : OpenClaim := { program := "ytcklknlbmbinoaa", sum := "61389024c20885b8982d4c11df76667904e04c55c354317e454bb8e80bb53af9", func := "hachure/hachurelaw07.RectAsks", spec := "rectAsks", apart := false }
def RectAsksSaid : Prop := rectAsksRow.holds Try.pinned (OpenSpec.ofChange rectAsksSpec)

/-- ITS FALSE NEIGHBOUR: 'it returns false'. Refute it at one input. -/
def rectAsksWrong : ChangeSpec := { name := "rectAsks", fn := fun _ => fun
  | [d1, d2, d3, d4] => { results := [.lit (.bool false)], args := [d1, d2, d3, d4] }
  | _ => none }
def RectAsksWrongFalsely : Prop := rectAsksRow.holds Try.pinned (OpenSpec.ofChange rectAsksWrong)

/-- 'hachurelaw07.RectPieces': WHATEVER THE INPUT: true; the input reads as it did. -/
def rectPiecesSpec : ChangeSpec := { name := "rectPieces", fn := fun _ => fun
  | [d1, d2] => { results := [.lit (.bool true)], args := [d1, d2] }
  | _ => none }
def rectPiecesRow : OpenClaim := { program := "ytcklknlbmbinoaa", sum := "61389024c20885b8982d4c11df76667904e04c55c354317e454bb8e80bb53af9", func := "hachure/hachurelaw07.RectPieces", spec := "rectPieces", apart := false }
def RectPiecesSaid : Prop := rectPiecesRow.holds Try.pinned (OpenSpec.ofChange rectPiecesSpec)

/-- ITS FALSE NEIGHBOUR: 'it returns false'. Refute it at one input. -/
def rectPiecesWrong : ChangeSpec := { name := "rectPieces", fn := fun _ => fun
  | [d1, d2] => { results := [.lit (.bool false)], args := [d1, d2] }
  | _ => none }
def RectPiecesWrongFalsely : Prop := rectPiecesRow.holds Try.pinned (OpenSpec.ofChange rectPiecesWrong)

/-- 'hachurelaw12.WirePuts': WHATEVER THE INPUT: true; the input reads as it did. -/
def wirePutsSpec : ChangeSpec := { name := "wirePuts", fn := fun _ => fun
  | [d1, d2, d3, d4] => { results := [.lit (.bool true)], args := [d1, d2, d3, d4] }
  | _ => none }
def wirePutsRow : OpenClaim := { program := "ytcklknlbmbinoaa", sum := "61389024c20885b8982d4c11df76667904e04c55c354317e454bb8e80bb53af9", func := "hachure/hachurelaw12.WirePuts", spec := "wirePuts", apart := false }
def WirePutsSaid : Prop := wirePutsRow.holds Try.pinned (OpenSpec.ofChange wirePutsSpec)

/-- ITS FALSE NEIGHBOUR: 'it returns false'. Refute it at one input. -/
def wirePutsWrong : ChangeSpec := { name := "wirePuts", fn := fun _ => fun
  | [d1, d2, d3, d4] => { results := [.lit (.bool false)], args := [d1, d2, d3, d4] }
  | _ => none }
def WirePutsWrongFalsely : Prop := wirePutsRow.holds Try.pinned (OpenSpec.ofChange wirePutsWrong)

/-- 'hachurelaw12.WireGets': WHATEVER THE INPUT: true; the input reads as it did. -/
def wireGetsSpec : ChangeSpec := { name := "wireGets", fn := fun _ => fun
  | [d1, d2, d3] => { results := [.lit (.bool true)], args := [d1, d2, d3] }
  | _ => none }
def wireGetsRow : OpenClaim := { program := "ytcklknlbmbinoaa", sum := "61389024c20885b8982d4c11df76667904e04c55c354317e454bb8e80bb53af9", func := "hachure/hachurelaw12.WireGets", spec := "wireGets", apart := false }
def WireGetsSaid : Prop := wireGetsRow.holds Try.pinned (OpenSpec.ofChange wireGetsSpec)

/-- ITS FALSE NEIGHBOUR: 'it returns false'. Refute it at one input. -/
def wireGetsWrong : ChangeSpec := { name := "wireGets", fn := fun _ => fun
  | [d1, d2, d3] => { results := [.lit (.bool false)], args := [d1, d2, d3] }
  | _ => none }
def WireGetsWrongFalsely : Prop := wireGetsRow.holds Try.pinned (OpenSpec.ofChange wireGetsWrong)

/-- 'hachurelaw07.RectAround': WHATEVER THE INPUT: true; the input reads as it did. -/
def rectAroundSpec : ChangeSpec := { name := "rectAround", fn := fun _ => fun
  | [d1, d2, d3, d4, d5] => { results := [.lit (.bool true)], args := [d1, d2, d3, d4, d5] }
  | _ => none }
def rectAroundRow : OpenClaim := { program := "ytcklknlbmbinoaa", sum := "61389024c20885b8982d4c11df76667904e04c55c354317e454bb8e80bb53af9", func := "hachure/hachurelaw07.RectAround", spec := "rectAround", apart := false }
def RectAroundSaid : Prop := rectAroundRow.holds Try.pinned (OpenSpec.ofChange rectAroundSpec)

/-- ITS FALSE NEIGHBOUR: 'it returns false'. Refute it at one input. -/
def rectAroundWrong : ChangeSpec := { name := "rectAround", fn := fun _ => fun
  | [d1, d2, d3, d4, d5] => { results := [.lit (.bool false)], args := [d1, d2, d3, d4, d5] }
  | _ => none }
def RectAroundWrongFalsely : Prop := rectAroundRow.holds Try.pinned (OpenSpec.ofChange rectAroundWrong)

/-- 'hachurelaw07.RectRows': WHATEVER THE INPUT: true; the input reads as it did. -/
def rectRowsSpec : ChangeSpec := { name := "rectRows", fn := fun _ => fun
  | [d1, d2, d3] => { results := [.lit (.bool true)], args := [d1, d2, d3] }
  | _ => none }
def rectRowsRow : OpenClaim := { program := "ytcklknlbmbinoaa", sum := "61389024c20885b8982d4c11df76667904e04c55c354317e454bb8e80bb53af9", func := "hachure/hachurelaw07.RectRows", spec := "rectRows", apart := false }
def RectRowsSaid : Prop := rectRowsRow.holds Try.pinned (OpenSpec.ofChange rectRowsSpec)

/-- ITS FALSE NEIGHBOUR: 'it returns false'. Refute it at one input. -/
def rectRowsWrong : ChangeSpec := { name := "rectRows", fn := fun _ => fun
  | [d1, d2, d3] => { results := [.lit (.bool false)], args := [d1, d2, d3] }
  | _ => none }
def RectRowsWrongFalsely : Prop := rectRowsRow.holds Try.pinned (OpenSpec.ofChange rectRowsWrong)

/-- 'hachurelaw04.PredFlat': WHATEVER THE INPUT: true; the input reads as it did. -/
def predFlatSpec : ChangeSpec := { name := "predFlat", fn := fun _ => fun
  | [d1, d2, d3, d4, d5] => { results := [.lit (.bool true)], args := [d1, d2, d3, d4, d5] }
  | _ => none }
def predFlatRow : OpenClaim := { program := "ytcklknlbmbinoaa", sum := "61389024c20885b8982d4c11df76667904e04c55c354317e454bb8e80bb53af9", func := "hachure/hachurelaw04.PredFlat", spec := "predFlat", apart := false }
def PredFlatSaid : Prop := predFlatRow.holds Try.pinned (OpenSpec.ofChange predFlatSpec)

/-- ITS FALSE NEIGHBOUR: 'it returns false'. Refute it at one input. -/
def predFlatWrong : ChangeSpec := { name := "predFlat", fn := fun _ => fun
  | [d1, d2, d3, d4, d5] => { results := [.lit (.bool false)], args := [d1, d2, d3, d4, d5] }
  | _ => none }
def PredFlatWrongFalsely : Prop := predFlatRow.holds Try.pinned (OpenSpec.ofChange predFlatWrong)

/-- 'hachurelaw07.RectJoins': WHATEVER THE INPUT: true; the input reads as it did. -/
def rectJoinsSpec : ChangeSpec := { name := "rectJoins", fn := fun _ => fun
  | [d1, d2, d3] => { results := [.lit (.bool true)], args := [d1, d2, d3] }
  | _ => none }
def rectJoinsRow : OpenClaim := { program := "ytcklknlbmbinoaa", sum := "61389024c20885b8982d4c11df76667904e04c55c354317e454bb8e80bb53af9", func := "hachure/hachurelaw07.RectJoins", spec := "rectJoins", apart := false }
def RectJoinsSaid : Prop := rectJoinsRow.holds Try.pinned (OpenSpec.ofChange rectJoinsSpec)

/-- ITS FALSE NEIGHBOUR: 'it returns false'. Refute it at one input. -/
def rectJoinsWrong : ChangeSpec := { name := "rectJoins", fn := fun _ => fun
  | [d1, d2, d3] => { results := [.lit (.bool false)], args := [d1, d2, d3] }
  | _ => none }
def RectJoinsWrongFalsely : Prop := rectJoinsRow.holds Try.pinned (OpenSpec.ofChange rectJoinsWrong)

/-- 'hachurelaw04.PredRests': WHATEVER THE INPUT: true; the input reads as it did. -/
def predRestsSpec : ChangeSpec := { name := "predRests", fn := fun _ => fun
  | [d1, d2, d3] => { results := [.lit (.bool true)], args := [d1, d2, d3] }
  | _ => none }
def predRestsRow : OpenClaim := { program := "ytcklknlbmbinoaa", sum := "61389024c20885b8982d4c11df76667904e04c55c354317e454bb8e80bb53af9", func := "hachure/hachurelaw04.PredRests", spec := "predRests", apart := false }
def PredRestsSaid : Prop := predRestsRow.holds Try.pinned (OpenSpec.ofChange predRestsSpec)

/-- ITS FALSE NEIGHBOUR: 'it returns false'. Refute it at one input. -/
def predRestsWrong : ChangeSpec := { name := "predRests", fn := fun _ => fun
  | [d1, d2, d3] => { results := [.lit (.bool false)], args := [d1, d2, d3] }
  | _ => none }
def PredRestsWrongFalsely : Prop := predRestsRow.holds Try.pinned (OpenSpec.ofChange predRestsWrong)

/-- 'hachurelaw04.PredCells': WHATEVER THE INPUT: true; the input reads as it did. -/
def predCellsSpec : ChangeSpec := { name := "predCells", fn := fun _ => fun
  | [d1, d2, d3] => { results := [.lit (.bool true)], args := [d1, d2, d3] }
  | _ => none }
def predCellsRow : OpenClaim := { program := "ytcklknlbmbinoaa", sum := "61389024c20885b8982d4c11df76667904e04c55c354317e454bb8e80bb53af9", func := "hachure/hachurelaw04.PredCells", spec := "predCells", apart := false }
def PredCellsSaid : Prop := predCellsRow.holds Try.pinned (OpenSpec.ofChange predCellsSpec)

/-- ITS FALSE NEIGHBOUR: 'it returns false'. Refute it at one input. -/
def predCellsWrong : ChangeSpec := { name := "predCells", fn := fun _ => fun
  | [d1, d2, d3] => { results := [.lit (.bool false)], args := [d1, d2, d3] }
  | _ => none }
def PredCellsWrongFalsely : Prop := predCellsRow.holds Try.pinned (OpenSpec.ofChange predCellsWrong)

/- THE SECOND FORM. 'bulk': how many values and letters a reading holds, each counted each time it is reached (what is shared counts as often as it is met; a slice's spare places count too). A statement '..UptoSaid' is the law's where the arguments, and the package variables that the reading takes, are together of bulk at most 1048576: NARROWER than '..Said'. Prove '..Said' where nothing that the law and all that it calls make is longer than what came in: it says more and counts as full. Else prove '..UptoSaid'. A law counts once. -/
mutual
def uptoBulk {H : Type} : DataW H → Nat
  | .lit (.string bytes) => bytes.length + 1
  | .lit _ => 1
  | .nil => 1
  | .ptr d => uptoBulk d + 1
  | .slice elems spare => uptoBulkAll elems + uptoBulkAll spare + 1
  | .agg parts => uptoBulkAll parts + 1
  | .iface _ d => uptoBulk d + 1
  | .map entries => uptoBulkEntries entries + 1
  | .held _ => 1
def uptoBulkAll {H : Type} : List (DataW H) → Nat
  | [] => 0
  | d :: r => uptoBulk d + uptoBulkAll r
def uptoBulkEntries {H : Type} : List (Lit × DataW H) → Nat
  | [] => 0
  | x :: r => uptoBulkEntry x + uptoBulkEntries r
def uptoBulkEntry {H : Type} : Lit × DataW H → Nat
  | (.string bytes, d) => bytes.length + uptoBulk d + 1
  | (_, d) => uptoBulk d + 1
 end
def uptoSmall : (H : Type) → List (DataW H) → Bool := fun _ ds => decide (uptoBulkAll ds ≤ 1048576)
def OpenSpec.upto (s : _root_.Go.ChangeSpec) : _root_.Go.OpenSpec := { _root_.Go.OpenSpec.ofChange s with cond := some uptoSmall }

/-- 'hachurelaw04.PredGuesses', WHERE WHAT IT READS IS OF BULK AT MOST 1048576: true; the input reads as it did. -/
def predGuessesUptoRow : OpenClaim := { program := "ytcklknlbmbinoaa", sum := "61389024c20885b8982d4c11df76667904e04c55c354317e454bb8e80bb53af9", func := "hachure/hachurelaw04.PredGuesses", spec := "predGuesses", apart := false, narrowed := true }
def PredGuessesUptoSaid : Prop := predGuessesUptoRow.holds Try.pinned (OpenSpec.upto predGuessesSpec)

/-- 'hachurelaw07.RectAsks', WHERE WHAT IT READS IS OF BULK AT MOST 1048576: true; the input reads as it did. -/
def rectAsksUptoRow : OpenClaim := { program := "ytcklknlbmbinoaa", sum := "61389024c20885b8982d4c11df76667904e04c55c354317e454bb8e80bb53af9", func := "hachure/hachurelaw07.RectAsks", spec := "rectAsks", apart := false, narrowed := true }
def RectAsksUptoSaid : Prop := rectAsksUptoRow.holds Try.pinned (OpenSpec.upto rectAsksSpec)

/-- 'hachurelaw07.RectPieces', WHERE WHAT IT READS IS OF BULK AT MOST 1048576: true; the input reads as it did. -/
def rectPiecesUptoRow : OpenClaim := { program := "ytcklknlbmbinoaa", sum := "61389024c20885b8982d4c11df76667904e04c55c354317e454bb8e80bb53af9", func := "hachure/hachurelaw07.RectPieces", spec := "rectPieces", apart := false, narrowed := true }
def RectPiecesUptoSaid : Prop := rectPiecesUptoRow.holds Try.pinned (OpenSpec.upto rectPiecesSpec)

/-- 'hachurelaw12.WirePuts', WHERE WHAT IT READS IS OF BULK AT MOST 1048576: true; the input reads as it did. -/
def wirePutsUptoRow : OpenClaim := { program := "ytcklknlbmbinoaa", sum := "61389024c20885b8982d4c11df76667904e04c55c354317e454bb8e80bb53af9", func := "hachure/hachurelaw12.WirePuts", spec := "wirePuts", apart := false, narrowed := true }
def WirePutsUptoSaid : Prop := wirePutsUptoRow.holds Try.pinned (OpenSpec.upto wirePutsSpec)

/-- 'hachurelaw12.WireGets', WHERE WHAT IT READS IS OF BULK AT MOST 1048576: true; the input reads as it did. -/
def wireGetsUptoRow : OpenClaim := { program := "ytcklknlbmbinoaa", sum := "61389024c20885b8982d4c11df76667904e04c55c354317e454bb8e80bb53af9", func := "hachure/hachurelaw12.WireGets", spec := "wireGets", apart := false, narrowed := true }
def WireGetsUptoSaid : Prop := wireGetsUptoRow.holds Try.pinned (OpenSpec.upto wireGetsSpec)

/-- 'hachurelaw07.RectAround', WHERE WHAT IT READS IS OF BULK AT MOST 1048576: true; the input reads as it did. -/
def rectAroundUptoRow : OpenClaim := { program := "ytcklknlbmbinoaa", sum := "61389024c20885b8982d4c11df76667904e04c55c354317e454bb8e80bb53af9", func := "hachure/hachurelaw07.RectAround", spec := "rectAround", apart := false, narrowed := true }
def RectAroundUptoSaid : Prop := rectAroundUptoRow.holds Try.pinned (OpenSpec.upto rectAroundSpec)

/-- 'hachurelaw07.RectRows', WHERE WHAT IT READS IS OF BULK AT MOST 1048576: true; the input reads as it did. -/
def rectRowsUptoRow : OpenClaim := { program := "ytcklknlbmbinoaa", sum := "61389024c20885b8982d4c11df76667904e04c55c354317e454bb8e80bb53af9", func := "hachure/hachurelaw07.RectRows", spec := "rectRows", apart := false, narrowed := true }
def RectRowsUptoSaid : Prop := rectRowsUptoRow.holds Try.pinned (OpenSpec.upto rectRowsSpec)

/-- 'hachurelaw04.PredFlat', WHERE WHAT IT READS IS OF BULK AT MOST 1048576: true; the input reads as it did. -/
def predFlatUptoRow : OpenClaim := { program := "ytcklknlbmbinoaa", sum := "61389024c20885b8982d4c11df76667904e04c55c354317e454bb8e80bb53af9", func := "hachure/hachurelaw04.PredFlat", spec := "predFlat", apart := false, narrowed := true }
def PredFlatUptoSaid : Prop := predFlatUptoRow.holds Try.pinned (OpenSpec.upto predFlatSpec)

/-- 'hachurelaw07.RectJoins', WHERE WHAT IT READS IS OF BULK AT MOST 1048576: true; the input reads as it did. -/
def rectJoinsUptoRow : OpenClaim := { program := "ytcklknlbmbinoaa", sum := "61389024c20885b8982d4c11df76667904e04c55c354317e454bb8e80bb53af9", func := "hachure/hachurelaw07.RectJoins", spec := "rectJoins", apart := false, narrowed := true }
def RectJoinsUptoSaid : Prop := rectJoinsUptoRow.holds Try.pinned (OpenSpec.upto rectJoinsSpec)

/-- 'hachurelaw04.PredRests', WHERE WHAT IT READS IS OF BULK AT MOST 1048576: true; the input reads as it did. -/
def predRestsUptoRow : OpenClaim := { program := "ytcklknlbmbinoaa", sum := "61389024c20885b8982d4c11df76667904e04c55c354317e454bb8e80bb53af9", func := "hachure/hachurelaw04.PredRests", spec := "predRests", apart := false, narrowed := true }
def PredRestsUptoSaid : Prop := predRestsUptoRow.holds Try.pinned (OpenSpec.upto predRestsSpec)

/-- 'hachurelaw04.PredCells', WHERE WHAT IT READS IS OF BULK AT MOST 1048576: true; the input reads as it did. -/
def predCellsUptoRow : OpenClaim := { program := "ytcklknlbmbinoaa", sum := "61389024c20885b8982d4c11df76667904e04c55c354317e454bb8e80bb53af9", func := "hachure/hachurelaw04.PredCells", spec := "predCells", apart := false, narrowed := true }
def PredCellsUptoSaid : Prop := predCellsUptoRow.holds Try.pinned (OpenSpec.upto predCellsSpec)

end Rows
end Go.Proofs.Ytcklknlbmbinoaa
