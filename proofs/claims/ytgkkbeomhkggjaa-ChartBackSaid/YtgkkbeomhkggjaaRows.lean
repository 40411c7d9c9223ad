/-
  No cell of these rows narrows 'for every input' (looked for: loops, veiled, ifaces, maps, wideKeys, modest, calm, conditions, laid).
  DERIVED. THE GIVEN ROWS OF THIS SEAT. 5 by the template 'for every input the law returns true; each argument reads behind the call as it read before'; 0 by the template 'total and deterministic' (their statements: YtgkkbeomhkggjaaTotals.lean).
  GIVEN WITH THE SEED: the statements are not yours to turn. If you find one false, say at which input.
  Laid BY PROGRAM, IN A SANDBOX (cutbox-rows.mjs): the forced cells as the released guide's own fill.sh prints them over the translation dc143b649272eb82… (all of the seat's roots in one cut). By AI agents, Wed Nov 11 2026. No macro, syntax, notation, axiom, sorry.
-/
import Derived.Test.YtgkkbeomhkggjaaChecked
import GoSem.Claim
import GoSem.ClaimJoined
import GoSem.ClaimMapViews
import Derived.JoinedTies
import Derived.KernelRfl
namespace Go.Proofs.Ytgkkbeomhkggjaa
/- THE CELL 'sum', in the pinned program and in every row, IS THE sha256 OF THE DUMP (.gsa) THAT YtgkkbeomhkggjaaProg.lean LOADS. Nothing in Lean hashes anything: it is a label: what it is worth is what the hold of that sum in a sandbox is worth. -/
noncomputable def Try.pinned : Pinned := { name := "ytgkkbeomhkggjaa", sum := "dc143b649272eb82cca02d83815b5023e12c5acdac89ec96a17085c31a532fff", checked := Try.checked }
namespace Rows
def none {H : Type} : Left H := { results := [], args := [] }

/-- 'hachurelaw35.PastRounds': WHATEVER THE INPUT: true; the input reads as it did. -/
def pastRoundsSpec : ChangeSpec := { name := "pastRounds", fn := fun _ => fun
  | [d] => { results := [.lit (.bool true)], args := [d] }
  | _ => none }
def pastRoundsRow : OpenClaim := { program := "ytgkkbeomhkggjaa", sum := "dc143b649272eb82cca02d83815b5023e12c5acdac89ec96a17085c31a532fff", func := "hachure/hachurelaw35.PastRounds", spec := "pastRounds", unfollowed := true, recurses := true, apart := false }
def PastRoundsSaid : Prop := pastRoundsRow.holds Try.pinned (OpenSpec.ofChange pastRoundsSpec)

/-- ITS FALSE NEIGHBOUR: 'it returns false'. Refute it at one input. -/
def pastRoundsWrong : ChangeSpec := { name := "pastRounds", fn := fun _ => fun
  | [d] => { results := [.lit (.bool false)], args := [d] }
  | _ => none }
def PastRoundsWrongFalsely : Prop := pastRoundsRow.holds Try.pinned (OpenSpec.ofChange pastRoundsWrong)

/-- 'hachurelaw35.PastPlays': WHATEVER THE INPUT: true; the input reads as it did. -/
def pastPlaysSpec : ChangeSpec := { name := "pastPlays", fn := fun _ => fun
  | [d] => { results := [.lit (.bool true)], args := [d] }
  | _ => none }
def pastPlaysRow : OpenClaim := { program := "ytgkkbeomhkggjaa", sum := "dc143b649272eb82cca02d83815b5023e12c5acdac89ec96a17085c31a532fff", func := "hachure/hachurelaw35.PastPlays", spec := "pastPlays", unfollowed := true, recurses := true, apart := false }
def PastPlaysSaid : Prop := pastPlaysRow.holds Try.pinned (OpenSpec.ofChange pastPlaysSpec)

/-- ITS FALSE NEIGHBOUR: 'it returns false'. Refute it at one input. -/
def pastPlaysWrong : ChangeSpec := { name := "pastPlays", fn := fun _ => fun
  | [d] => { results := [.lit (.bool false)], args := [d] }
  | _ => none }
def PastPlaysWrongFalsely : Prop := pastPlaysRow.holds Try.pinned (OpenSpec.ofChange pastPlaysWrong)

/-- 'hachurelaw35.PastNil': WHATEVER THE INPUT: true; the input reads as it did. -/
def pastNilSpec : ChangeSpec := { name := "pastNil", fn := fun _ => fun
  | [d] => { results := [.lit (.bool true)], args := [d] }
  | _ => none }
def pastNilRow : OpenClaim := { program := "ytgkkbeomhkggjaa", sum := "dc143b649272eb82cca02d83815b5023e12c5acdac89ec96a17085c31a532fff", func := "hachure/hachurelaw35.PastNil", spec := "pastNil", unfollowed := true, recurses := true, apart := false }
def PastNilSaid : Prop := pastNilRow.holds Try.pinned (OpenSpec.ofChange pastNilSpec)

/-- ITS FALSE NEIGHBOUR: 'it returns false'. Refute it at one input. -/
def pastNilWrong : ChangeSpec := { name := "pastNil", fn := fun _ => fun
  | [d] => { results := [.lit (.bool false)], args := [d] }
  | _ => none }
def PastNilWrongFalsely : Prop := pastNilRow.holds Try.pinned (OpenSpec.ofChange pastNilWrong)

/-- 'hachurelaw34.ChartBack': WHATEVER THE INPUT: true; the input reads as it did. -/
def chartBackSpec : ChangeSpec := { name := "chartBack", fn := fun _ => fun
  | [d1, d2, d3, d4, d5] => { results := [.lit (.bool true)], args := [d1, d2, d3, d4, d5] }
  | _ => none }
def chartBackRow : OpenClaim := { program := "ytgkkbeomhkggjaa", sum := "dc143b649272eb82cca02d83815b5023e12c5acdac89ec96a17085c31a532fff", func := "hachure/hachurelaw34.ChartBack", spec := "chartBack", inPlace := ["internal/abi.NoEscape"], unfollowed := true, recurses := true, apart := false }
def ChartBackSaid : Prop := chartBackRow.holds Try.pinned (OpenSpec.ofChange chartBackSpec)

/-- ITS FALSE NEIGHBOUR: 'it returns false'. Refute it at one input. -/
def chartBackWrong : ChangeSpec := { name := "chartBack", fn := fun _ => fun
  | [d1, d2, d3, d4, d5] => { results := [.lit (.bool false)], args := [d1, d2, d3, d4, d5] }
  | _ => none }
def ChartBackWrongFalsely : Prop := chartBackRow.holds Try.pinned (OpenSpec.ofChange chartBackWrong)

/-- 'hachurelaw34.ChartReads': WHATEVER THE INPUT: true; the input reads as it did. -/
def chartReadsSpec : ChangeSpec := { name := "chartReads", fn := fun _ => fun
  | [d1, d2] => { results := [.lit (.bool true)], args := [d1, d2] }
  | _ => none }
def chartReadsRow : OpenClaim := { program := "ytgkkbeomhkggjaa", sum := "dc143b649272eb82cca02d83815b5023e12c5acdac89ec96a17085c31a532fff", func := "hachure/hachurelaw34.ChartReads", spec := "chartReads", inPlace := ["internal/abi.NoEscape"], unfollowed := true, recurses := true, apart := false }
def ChartReadsSaid : Prop := chartReadsRow.holds Try.pinned (OpenSpec.ofChange chartReadsSpec)

/-- ITS FALSE NEIGHBOUR: 'it returns false'. Refute it at one input. -/
def chartReadsWrong : ChangeSpec := { name := "chartReads", fn := fun _ => fun
  | [d1, d2] => { results := [.lit (.bool false)], args := [d1, d2] }
  | _ => none }
def ChartReadsWrongFalsely : Prop := chartReadsRow.holds Try.pinned (OpenSpec.ofChange chartReadsWrong)

/- THE SECOND FORM. 'bulk': how many values and letters a reading holds, each counted each time it is reached (what is shared counts as often as it is met; a slice's spare places count too). A statement '..UptoSaid' is the law's where the arguments, and the package variables that the reading takes, are together of bulk at most 1048576: NARROWER than '..Said'. Prove '..Said' where nothing that the law and all that it calls make is longer than what came in: it says more and counts as full. Else prove '..UptoSaid'. A law counts once. -/
mutual
def uptoBulk {H : Type} : DataW H → Nat
  | .lit (.string bytes) => bytes.length + 1
  | .lit _ => 1
  | .nil => 1
  | .ptr d => uptoBulk d + 1
  | .slice elems spare => uptoBulkAll elems + uptoBulkAll spare + 1
  | .agg parts => uptoBulkAll parts + 1
  | .iface _ d => uptoBulk d + 1
  | .map entries => uptoBulkEntries entries + 1
  | .held _ => 1
def uptoBulkAll {H : Type} : List (DataW H) → Nat
  | [] => 0
  | d :: r => uptoBulk d + uptoBulkAll r
def uptoBulkEntries {H : Type} : List (Lit × DataW H) → Nat
  | [] => 0
  | x :: r => uptoBulkEntry x + uptoBulkEntries r
def uptoBulkEntry {H : Type} : Lit × DataW H → Nat
  | (.string bytes, d) => bytes.length + uptoBulk d + 1
  | (_, d) => uptoBulk d + 1
 end
def uptoSmall : (H : Type) → List (DataW H) → Bool := fun _ ds => decide (uptoBulkAll ds ≤ 1048576)
def OpenSpec.upto (s : _root_.Go.ChangeSpec) : _root_.Go.OpenSpec := { _root_.Go.OpenSpec.ofChange s with cond := some uptoSmall }

/-- 'hachurelaw35.PastRounds', WHERE WHAT IT READS IS OF BULK AT MOST 1048576: true; the input reads as it did. -/
def pastRoundsUptoRow : OpenClaim := { program := "ytgkkbeomhkggjaa", sum := "dc143b649272eb82cca02d83815b5023e12c5acdac89ec96a17085c31a532fff", func := "hachure/hachurelaw35.PastRounds", spec := "pastRounds", unfollowed := true, recurses := true, apart := false, narrowed := true }
def PastRoundsUptoSaid : Prop := pastRoundsUptoRow.holds Try.pinned (OpenSpec.upto pastRoundsSpec)

/-- 'hachurelaw35.PastPlays', WHERE WHAT IT READS IS OF BULK AT MOST 1048576: true; the input reads as it did. -/
def pastPlaysUptoRow : OpenClaim := { program := "ytgkkbeomhkggjaa", sum := "dc143b649272eb82cca02d83815b5023e12c5acdac89ec96a17085c31a532fff", func := "hachure/hachurelaw35.PastPlays", spec := "pastPlays", unfollowed := true, recurses := true, apart := false, narrowed := true }
def PastPlaysUptoSaid : Prop := pastPlaysUptoRow.holds Try.pinned (OpenSpec.upto pastPlaysSpec)

/-- 'hachurelaw35.PastNil', WHERE WHAT IT READS IS OF BULK AT MOST 1048576: true; the input reads as it did. -/
def pastNilUptoRow : OpenClaim := { program := "ytgkkbeomhkggjaa", sum := "dc143b649272eb82cca02d83815b5023e12c5acdac89ec96a17085c31a532fff", func := "hachure/hachurelaw35.PastNil", spec := "pastNil", unfollowed := true, recurses := true, apart := false, narrowed := true }
def PastNilUptoSaid : Prop := pastNilUptoRow.holds Try.pinned (OpenSpec.upto pastNilSpec)

/-- 'hachurelaw34.ChartBack', WHERE WHAT IT READS IS OF BULK AT MOST 1048576: true; the input reads as it did. -/
def chartBackUptoRow : OpenClaim := { program := "ytgkkbeomhkggjaa", sum := "dc143b649272eb82cca02d83815b5023e12c5acdac89ec96a17085c31a532fff", func := "hachure/hachurelaw34.ChartBack", spec := "chartBack", inPlace := ["internal/abi.NoEscape"], unfollowed := true, recurses := true, apart := false, narrowed := true }
def ChartBackUptoSaid : Prop := chartBackUptoRow.holds Try.pinned (OpenSpec.upto chartBackSpec)

/-- 'hachurelaw34.ChartReads', WHERE WHAT IT READS IS OF BULK AT MOST 1048576: true; the input reads as it did. -/
def chartReadsUptoRow : OpenClaim := { program := "ytgkkbeomhkggjaa", sum := "dc143b649272eb82cca02d83815b5023e12c5acdac89ec96a17085c31a532fff", func := "hachure/hachurelaw34.ChartReads", spec := "chartReads", inPlace := ["internal/abi.NoEscape"], unfollowed := true, recurses := true, apart := false, narrowed := true }
def ChartReadsUptoSaid : Prop := chartReadsUptoRow.holds Try.pinned (OpenSpec.upto chartReadsSpec)

end Rows
end Go.Proofs.Ytgkkbeomhkggjaa
