/-
  No cell of these rows narrows 'for every input' (looked for: loops, veiled, ifaces, maps, wideKeys, modest, calm, conditions, laid).
  DERIVED. THE GIVEN ROWS OF THIS SEAT. 6 by the template 'for every input the law returns true; each argument reads behind the call as it read before'; 0 by the template 'total and deterministic' (their statements: YtbnjbgcadkdljaaTotals.lean).
  GIVEN WITH THE SEED: the statements are not yours to turn. If you find one false, say at which input.
  Laid BY PROGRAM, IN A SANDBOX (cutbox-rows.mjs): the forced cells as the released guide's own fill.sh prints them over the translation b5f78bb4cb2e0529… (all of the seat's roots in one cut). By AI agents, Wed Nov 11 2026. No macro, syntax, notation, axiom, sorry.
-/
import Derived.Test.YtbnjbgcadkdljaaChecked
import GoSem.Claim
import GoSem.ClaimJoined
import GoSem.ClaimMapViews
import Derived.JoinedTies
import Derived.KernelRfl
namespace Go.Proofs.Ytbnjbgcadkdljaa
/- THE CELL 'sum', in the pinned program and in every row, IS THE sha256 OF THE DUMP (.gsa) THAT YtbnjbgcadkdljaaProg.lean LOADS. Nothing in Lean hashes anything: it is a label: what it is worth is what the hold of that sum in a sandbox is worth. -/
noncomputable def Try.pinned : Pinned := { name := "ytbnjbgcadkdljaa", sum := "b5f78bb4cb2e05294e1bcf515f1e71a3a88dd95dc2251585d8e46a4560b96ecc", checked := Try.checked }
namespace Rows
def none {H : Type} : Left H := { results := [], args := [] }

/-- 'hachurelaw05.RunsShort': WHATEVER THE INPUT: true; the input reads as it did. -/
def runsShortSpec : ChangeSpec := { name := "runsShort", fn := fun _ => fun
  | [d1, d2] => { results := [.lit (.bool true)], args := [d1, d2] }
  | _ => none }
def runsShortRow : OpenClaim := { program := "ytbnjbgcadkdljaa", sum := "b5f78bb4cb2e05294e1bcf515f1e71a3a88dd95dc2251585d8e46a4560b96ecc", func := "hachure/hachurelaw05.RunsShort", spec := "runsShort", unfollowed := true, recurses := true, apart := false }
def RunsShortSaid : Prop := runsShortRow.holds Try.pinned (OpenSpec.ofChange runsShortSpec)

/-- ITS FALSE NEIGHBOUR: 'it returns false'. Refute it at one input. -/
def runsShortWrong : ChangeSpec := { name := "runsShort", fn := fun _ => fun
  | [d1, d2] => { results := [.lit (.bool false)], args := [d1, d2] }
  | _ => none }
def RunsShortWrongFalsely : Prop := runsShortRow.holds Try.pinned (OpenSpec.ofChange runsShortWrong)

/-- 'hachurelaw05.RunsGets': WHATEVER THE INPUT: true; the input reads as it did. -/
def runsGetsSpec : ChangeSpec := { name := "runsGets", fn := fun _ => fun
  | [d1, d2, d3] => { results := [.lit (.bool true)], args := [d1, d2, d3] }
  | _ => none }
def runsGetsRow : OpenClaim := { program := "ytbnjbgcadkdljaa", sum := "b5f78bb4cb2e05294e1bcf515f1e71a3a88dd95dc2251585d8e46a4560b96ecc", func := "hachure/hachurelaw05.RunsGets", spec := "runsGets", unfollowed := true, recurses := true, apart := false }
def RunsGetsSaid : Prop := runsGetsRow.holds Try.pinned (OpenSpec.ofChange runsGetsSpec)

/-- ITS FALSE NEIGHBOUR: 'it returns false'. Refute it at one input. -/
def runsGetsWrong : ChangeSpec := { name := "runsGets", fn := fun _ => fun
  | [d1, d2, d3] => { results := [.lit (.bool false)], args := [d1, d2, d3] }
  | _ => none }
def RunsGetsWrongFalsely : Prop := runsGetsRow.holds Try.pinned (OpenSpec.ofChange runsGetsWrong)

/-- 'hachurelaw05.RunsPuts': WHATEVER THE INPUT: true; the input reads as it did. -/
def runsPutsSpec : ChangeSpec := { name := "runsPuts", fn := fun _ => fun
  | [d1, d2, d3] => { results := [.lit (.bool true)], args := [d1, d2, d3] }
  | _ => none }
def runsPutsRow : OpenClaim := { program := "ytbnjbgcadkdljaa", sum := "b5f78bb4cb2e05294e1bcf515f1e71a3a88dd95dc2251585d8e46a4560b96ecc", func := "hachure/hachurelaw05.RunsPuts", spec := "runsPuts", unfollowed := true, recurses := true, apart := false }
def RunsPutsSaid : Prop := runsPutsRow.holds Try.pinned (OpenSpec.ofChange runsPutsSpec)

/-- ITS FALSE NEIGHBOUR: 'it returns false'. Refute it at one input. -/
def runsPutsWrong : ChangeSpec := { name := "runsPuts", fn := fun _ => fun
  | [d1, d2, d3] => { results := [.lit (.bool false)], args := [d1, d2, d3] }
  | _ => none }
def RunsPutsWrongFalsely : Prop := runsPutsRow.holds Try.pinned (OpenSpec.ofChange runsPutsWrong)

/-- 'hachurelaw06.TileBest': WHATEVER THE INPUT: true; the input reads as it did. -/
def tileBestSpec : ChangeSpec := { name := "tileBest", fn := fun _ => fun
  | [d1, d2, d3] => { results := [.lit (.bool true)], args := [d1, d2, d3] }
  | _ => none }
def tileBestRow : OpenClaim := { program := "ytbnjbgcadkdljaa", sum := "b5f78bb4cb2e05294e1bcf515f1e71a3a88dd95dc2251585d8e46a4560b96ecc", func := "hachure/hachurelaw06.TileBest", spec := "tileBest", unfollowed := true, recurses := true, apart := false }
def TileBestSaid : Prop := tileBestRow.holds Try.pinned (OpenSpec.ofChange tileBestSpec)

/-- ITS FALSE NEIGHBOUR: 'it returns false'. Refute it at one input. -/
def tileBestWrong : ChangeSpec := { name := "tileBest", fn := fun _ => fun
  | [d1, d2, d3] => { results := [.lit (.bool false)], args := [d1, d2, d3] }
  | _ => none }
def TileBestWrongFalsely : Prop := tileBestRow.holds Try.pinned (OpenSpec.ofChange tileBestWrong)

/-- 'hachurelaw06.TilePuts': WHATEVER THE INPUT: true; the input reads as it did. -/
def tilePutsSpec : ChangeSpec := { name := "tilePuts", fn := fun _ => fun
  | [d1, d2, d3, d4] => { results := [.lit (.bool true)], args := [d1, d2, d3, d4] }
  | _ => none }
def tilePutsRow : OpenClaim := { program := "ytbnjbgcadkdljaa", sum := "b5f78bb4cb2e05294e1bcf515f1e71a3a88dd95dc2251585d8e46a4560b96ecc", func := "hachure/hachurelaw06.TilePuts", spec := "tilePuts", unfollowed := true, recurses := true, apart := false }
def TilePutsSaid : Prop := tilePutsRow.holds Try.pinned (OpenSpec.ofChange tilePutsSpec)

/-- ITS FALSE NEIGHBOUR: 'it returns false'. Refute it at one input. -/
def tilePutsWrong : ChangeSpec := { name := "tilePuts", fn := fun _ => fun
  | [d1, d2, d3, d4] => { results := [.lit (.bool false)], args := [d1, d2, d3, d4] }
  | _ => none }
def TilePutsWrongFalsely : Prop := tilePutsRow.holds Try.pinned (OpenSpec.ofChange tilePutsWrong)

/-- 'hachurelaw06.TileGets': WHATEVER THE INPUT: true; the input reads as it did. -/
def tileGetsSpec : ChangeSpec := { name := "tileGets", fn := fun _ => fun
  | [d1, d2, d3] => { results := [.lit (.bool true)], args := [d1, d2, d3] }
  | _ => none }
def tileGetsRow : OpenClaim := { program := "ytbnjbgcadkdljaa", sum := "b5f78bb4cb2e05294e1bcf515f1e71a3a88dd95dc2251585d8e46a4560b96ecc", func := "hachure/hachurelaw06.TileGets", spec := "tileGets", unfollowed := true, recurses := true, apart := false }
def TileGetsSaid : Prop := tileGetsRow.holds Try.pinned (OpenSpec.ofChange tileGetsSpec)

/-- ITS FALSE NEIGHBOUR: 'it returns false'. Refute it at one input. -/
def tileGetsWrong : ChangeSpec := { name := "tileGets", fn := fun _ => fun
  | [d1, d2, d3] => { results := [.lit (.bool false)], args := [d1, d2, d3] }
  | _ => none }
def TileGetsWrongFalsely : Prop := tileGetsRow.holds Try.pinned (OpenSpec.ofChange tileGetsWrong)

/- THE SECOND FORM. 'bulk': how many values and letters a reading holds, each counted each time it is reached (what is shared counts as often as it is met; a slice's spare places count too). A statement '..UptoSaid' is the law's where the arguments, and the package variables that the reading takes, are together of bulk at most 1048576: NARROWER than '..Said'. Prove '..Said' where nothing that the law and all that it calls make is longer than what came in: it says more and counts as full. Else prove '..UptoSaid'. A law counts once. -/
mutual
def uptoBulk {H : Type} : DataW H → Nat
  | .lit (.string bytes) => bytes.length + 1
  | .lit _ => 1
  | .nil => 1
  | .ptr d => uptoBulk d + 1
  | .slice elems spare => uptoBulkAll elems + uptoBulkAll spare + 1
  | .agg parts => uptoBulkAll parts + 1
  | .iface _ d => uptoBulk d + 1
  | .map entries => uptoBulkEntries entries + 1
  | .held _ => 1
def uptoBulkAll {H : Type} : List (DataW H) → Nat
  | [] => 0
  | d :: r => uptoBulk d + uptoBulkAll r
def uptoBulkEntries {H : Type} : List (Lit × DataW H) → Nat
  | [] => 0
  | x :: r => uptoBulkEntry x + uptoBulkEntries r
def uptoBulkEntry {H : Type} : Lit × DataW H → Nat
  | (.string bytes, d) => bytes.length + uptoBulk d + 1
  | (_, d) => uptoBulk d + 1
 end
def uptoSmall : (H : Type) → List (DataW H) → Bool := fun _ ds => decide (uptoBulkAll ds ≤ 1048576)
def OpenSpec.upto (s : _root_.Go.ChangeSpec) : _root_.Go.OpenSpec := { _root_.Go.OpenSpec.ofChange s with cond := some uptoSmall }

/-- 'hachurelaw05.RunsShort', WHERE WHAT IT READS IS OF BULK AT MOST 1048576: true; the input reads as it did. -/
def runsShortUptoRow : OpenClaim := { program := "ytbnjbgcadkdljaa", sum := "b5f78bb4cb2e05294e1bcf515f1e71a3a88dd95dc2251585d8e46a4560b96ecc", func := "hachure/hachurelaw05.RunsShort", spec := "runsShort", unfollowed := true, recurses := true, apart := false, narrowed := true }
def RunsShortUptoSaid : Prop := runsShortUptoRow.holds Try.pinned (OpenSpec.upto runsShortSpec)

/-- 'hachurelaw05.RunsGets', WHERE WHAT IT READS IS OF BULK AT MOST 1048576: true; the input reads as it did. -/
def runsGetsUptoRow : OpenClaim := { program := "ytbnjbgcadkdljaa", sum := "b5f78bb4cb2e05294e1bcf515f1e71a3a88dd95dc2251585d8e46a4560b96ecc", func := "hachure/hachurelaw05.RunsGets", spec := "runsGets", unfollowed := true, recurses := true, apart := false, narrowed := true }
def RunsGetsUptoSaid : Prop := runsGetsUptoRow.holds Try.pinned (OpenSpec.upto runsGetsSpec)

/-- 'hachurelaw05.RunsPuts', WHERE WHAT IT READS IS OF BULK AT MOST 1048576: true; the input reads as it did. -/
def runsPutsUptoRow : OpenClaim := { program := "ytbnjbgcadkdljaa", sum := "b5f78bb4cb2e05294e1bcf515f1e71a3a88dd95dc2251585d8e46a4560b96ecc", func := "hachure/hachurelaw05.RunsPuts", spec := "runsPuts", unfollowed := true, recurses := true, apart := false, narrowed := true }
def RunsPutsUptoSaid : Prop := runsPutsUptoRow.holds Try.pinned (OpenSpec.upto runsPutsSpec)

/-- 'hachurelaw06.TileBest', WHERE WHAT IT READS IS OF BULK AT MOST 1048576: true; the input reads as it did. -/
def tileBestUptoRow : OpenClaim := { program := "ytbnjbgcadkdljaa", sum := "b5f78bb4cb2e05294e1bcf515f1e71a3a88dd95dc2251585d8e46a4560b96ecc", func := "hachure/hachurelaw06.TileBest", spec := "tileBest", unfollowed := true, recurses := true, apart := false, narrowed := true }
def TileBestUptoSaid : Prop := tileBestUptoRow.holds Try.pinned (OpenSpec.upto tileBestSpec)

/-- 'hachurelaw06.TilePuts', WHERE WHAT IT READS IS OF BULK AT MOST 1048576: true; the input reads as it did. -/
def tilePutsUptoRow : OpenClaim := { program := "ytbnjbgcadkdljaa", sum := "b5f78bb4cb2e05294e1bcf515f1e71a3a88dd95dc2251585d8e46a4560b96ecc", func := "hachure/hachurelaw06.TilePuts", spec := "tilePuts", unfollowed := true, recurses := true, apart := false, narrowed := true }
def TilePutsUptoSaid : Prop := tilePutsUptoRow.holds Try.pinned (OpenSpec.upto tilePutsSpec)

/-- 'hachurelaw06.TileGets', WHERE WHAT IT READS IS OF BULK AT MOST 1048576: true; the input reads as it did. -/
def tileGetsUptoRow : OpenClaim := { program := "ytbnjbgcadkdljaa", sum := "b5f78bb4cb2e05294e1bcf515f1e71a3a88dd95dc2251585d8e46a4560b96ecc", func := "hachure/hachurelaw06.TileGets", spec := "tileGets", unfollowed := true, recurses := true, apart := false, narrowed := true }
def TileGetsUptoSaid : Prop := tileGetsUptoRow.holds Try.pinned (OpenSpec.upto tileGetsSpec)

end Rows
end Go.Proofs.Ytbnjbgcadkdljaa
