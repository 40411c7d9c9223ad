/-
  No cell of these rows narrows 'for every input' (looked for: loops, veiled, ifaces, maps, wideKeys, modest, calm, conditions, laid).
  DERIVED. THE GIVEN ROWS OF THIS SEAT. 11 by the template 'for every input the law returns true; each argument reads behind the call as it read before'; 0 by the template 'total and deterministic' (their statements: YtkphmcaoioaglaaTotals.lean).
  GIVEN WITH THE SEED: the statements are not yours to turn. If you find one false, say at which input.
  Laid BY PROGRAM, IN A SANDBOX (cutbox-rows.mjs): the forced cells as the released guide's own fill.sh prints them over the translation 26012a26a841c339… (all of the seat's roots in one cut). By AI agents, Wed Nov 11 2026. No macro, syntax, notation, axiom, sorry.
-/
import Derived.Test.YtkphmcaoioaglaaChecked
import GoSem.Claim
import GoSem.ClaimJoined
import GoSem.ClaimMapViews
import Derived.JoinedTies
import Derived.KernelRfl
namespace Go.Proofs.Ytkphmcaoioaglaa
/- THE CELL 'sum', in the pinned program and in every row, IS THE sha256 OF THE DUMP (.gsa) THAT YtkphmcaoioaglaaProg.lean LOADS. Nothing in Lean hashes anything: it is a label: what it is worth is what the hold of that sum in a sandbox is worth. -/
noncomputable def Try.pinned : Pinned := { name := "ytkphmcaoioaglaa", sum := "26012a26a841c3390fea95021900cdf6ec526c318f0dbb0b7a66e39a135f0710", checked := Try.checked }
namespace Rows
def none {H : Type} : Left H := { results := [], args := [] }

/-- 'hachurelaw19.FenPlays': WHATEVER THE INPUT: true; the input reads as it did. -/
def fenPlaysSpec : ChangeSpec := { name := "fenPlays", fn := fun _ => fun
  | [d1, d2, d3, d4, d5] => { results := [.lit (.bool true)], args := [d1, d2, d3, d4, d5] }
  | _ => none }
def fenPlaysRow : OpenClaim := { program := "ytkphmcaoioaglaa", sum := "26012a26a841c3390fea95021900cdf6ec526c318f0dbb0b7a66e39a135f0710", func := "hachure/hachurelaw19.FenPlays", spec := "fenPlays", apart := false }
def FenPlaysSaid : Prop := fenPlaysRow.holds Try.pinned (OpenSpec.ofChange fenPlaysSpec)

/-- ITS FALSE NEIGHBOUR: 'it returns false'. Refute it at one input. -/
def fenPlaysWrong : ChangeSpec := { name := "fenPlays", fn := fun _ => fun
  | [d1, d2, d3, d4, d5] => { results := [.lit (.bool false)], args := [d1, d2, d3, d4, d5] }
  | _ => none }
def FenPlaysWrongFalsely : Prop := fenPlaysRow.holds Try.pinned (OpenSpec.ofChange fenPlaysWrong)

/-- 'hachurelaw19.FenNil': WHATEVER THE INPUT: true; the input reads as it did. -/
def fenNilSpec : ChangeSpec := { name := "fenNil", fn := fun _ => fun
  | [d1, d2, d3] => { results := [.lit (.bool true)], args := [d1, d2, d3] }
  | _ => none }
def fenNilRow : OpenClaim := { program := "ytkphmcaoioaglaa", sum := "26012a26a841c3390fea95021900cdf6ec526c318f0dbb0b7a66e39a135f0710", func := "hachure/hachurelaw19.FenNil", spec := "fenNil", unfollowed := true, recurses := true, apart := false }
def FenNilSaid : Prop := fenNilRow.holds Try.pinned (OpenSpec.ofChange fenNilSpec)

/-- ITS FALSE NEIGHBOUR: 'it returns false'. Refute it at one input. -/
def fenNilWrong : ChangeSpec := { name := "fenNil", fn := fun _ => fun
  | [d1, d2, d3] => { results := [.lit (.bool false)], args := [d1, d2, d3] }
  | _ => none }
def FenNilWrongFalsely : Prop := fenNilRow.holds Try.pinned (OpenSpec.ofChange fenNilWrong)

/-- 'hachurelaw08.SlabSets': WHATEVER THE INPUT: true; the input reads as it did. -/
def slabSetsSpec : ChangeSpec := { name := "slabSets", fn := fun _ => fun
  | [d1, d2, d3, d4, d5, d6] => { results := [.lit (.bool true)], args := [d1, d2, d3, d4, d5, d6] }
  | _ => none }
def slabSetsRow : OpenClaim := { program := "ytkphmcaoioaglaa", sum := "26012a26a841c3390fea95021900cdf6ec526c318f0dbb0b7a66e39a135f0710", func := "hachure/hachurelaw08.SlabSets", spec := "slabSets", unfollowed := true, recurses := true, apart := false }
def SlabSetsSaid : Prop := slabSetsRow.holds Try.pinned (OpenSpec.ofChange slabSetsSpec)

/-- ITS FALSE NEIGHBOUR: 'it returns false'. Refute it at one input. -/
def slabSetsWrong : ChangeSpec := { name := "slabSets", fn := fun _ => fun
  | [d1, d2, d3, d4, d5, d6] => { results := [.lit (.bool false)], args := [d1, d2, d3, d4, d5, d6] }
  | _ => none }
def SlabSetsWrongFalsely : Prop := slabSetsRow.holds Try.pinned (OpenSpec.ofChange slabSetsWrong)

/-- 'hachurelaw08.SlabPlays': WHATEVER THE INPUT: true; the input reads as it did. -/
def slabPlaysSpec : ChangeSpec := { name := "slabPlays", fn := fun _ => fun
  | [d1, d2, d3, d4, d5] => { results := [.lit (.bool true)], args := [d1, d2, d3, d4, d5] }
  | _ => none }
def slabPlaysRow : OpenClaim := { program := "ytkphmcaoioaglaa", sum := "26012a26a841c3390fea95021900cdf6ec526c318f0dbb0b7a66e39a135f0710", func := "hachure/hachurelaw08.SlabPlays", spec := "slabPlays", unfollowed := true, recurses := true, apart := false }
def SlabPlaysSaid : Prop := slabPlaysRow.holds Try.pinned (OpenSpec.ofChange slabPlaysSpec)

/-- ITS FALSE NEIGHBOUR: 'it returns false'. Refute it at one input. -/
def slabPlaysWrong : ChangeSpec := { name := "slabPlays", fn := fun _ => fun
  | [d1, d2, d3, d4, d5] => { results := [.lit (.bool false)], args := [d1, d2, d3, d4, d5] }
  | _ => none }
def SlabPlaysWrongFalsely : Prop := slabPlaysRow.holds Try.pinned (OpenSpec.ofChange slabPlaysWrong)

/-- 'hachurelaw08.SlabNil': WHATEVER THE INPUT: true; the input reads as it did. -/
def slabNilSpec : ChangeSpec := { name := "slabNil", fn := fun _ => fun
  | [d1, d2, d3] => { results := [.lit (.bool true)], args := [d1, d2, d3] }
  | _ => none }
def slabNilRow : OpenClaim := { program := "ytkphmcaoioaglaa", sum := "26012a26a841c3390fea95021900cdf6ec526c318f0dbb0b7a66e39a135f0710", func := "hachure/hachurelaw08.SlabNil", spec := "slabNil", unfollowed := true, recurses := true, apart := false }
def SlabNilSaid : Prop := slabNilRow.holds Try.pinned (OpenSpec.ofChange slabNilSpec)

/-- ITS FALSE NEIGHBOUR: 'it returns false'. Refute it at one input. -/
def slabNilWrong : ChangeSpec := { name := "slabNil", fn := fun _ => fun
  | [d1, d2, d3] => { results := [.lit (.bool false)], args := [d1, d2, d3] }
  | _ => none }
def SlabNilWrongFalsely : Prop := slabNilRow.holds Try.pinned (OpenSpec.ofChange slabNilWrong)

/-- 'hachurelaw09.GridPlays': WHATEVER THE INPUT: true; the input reads as it did. -/
def gridPlaysSpec : ChangeSpec := { name := "gridPlays", fn := fun _ => fun
  | [d1, d2, d3, d4, d5, d6, d7] => { results := [.lit (.bool true)], args := [d1, d2, d3, d4, d5, d6, d7] }
  | _ => none }
def gridPlaysRow : OpenClaim := { program := "ytkphmcaoioaglaa", sum := "26012a26a841c3390fea95021900cdf6ec526c318f0dbb0b7a66e39a135f0710", func := "hachure/hachurelaw09.GridPlays", spec := "gridPlays", unfollowed := true, recurses := true, apart := false }
def GridPlaysSaid : Prop := gridPlaysRow.holds Try.pinned (OpenSpec.ofChange gridPlaysSpec)

/-- ITS FALSE NEIGHBOUR: 'it returns false'. Refute it at one input. -/
def gridPlaysWrong : ChangeSpec := { name := "gridPlays", fn := fun _ => fun
  | [d1, d2, d3, d4, d5, d6, d7] => { results := [.lit (.bool false)], args := [d1, d2, d3, d4, d5, d6, d7] }
  | _ => none }
def GridPlaysWrongFalsely : Prop := gridPlaysRow.holds Try.pinned (OpenSpec.ofChange gridPlaysWrong)

/-- 'hachurelaw10.PaintFrom': WHATEVER THE INPUT: true; the input reads as it did. -/
def paintFromSpec : ChangeSpec := { name := "paintFrom", fn := fun _ => fun
  | [d1, d2, d3] => { results := [.lit (.bool true)], args := [d1, d2, d3] }
  | _ => none }
def paintFromRow : OpenClaim := { program := "ytkphmcaoioaglaa", sum := "26012a26a841c3390fea95021900cdf6ec526c318f0dbb0b7a66e39a135f0710", func := "hachure/hachurelaw10.PaintFrom", spec := "paintFrom", unfollowed := true, recurses := true, apart := false }
def PaintFromSaid : Prop := paintFromRow.holds Try.pinned (OpenSpec.ofChange paintFromSpec)

/-- ITS FALSE NEIGHBOUR: 'it returns false'. Refute it at one input. -/
def paintFromWrong : ChangeSpec := { name := "paintFrom", fn := fun _ => fun
  | [d1, d2, d3] => { results := [.lit (.bool false)], args := [d1, d2, d3] }
  | _ => none }
def PaintFromWrongFalsely : Prop := paintFromRow.holds Try.pinned (OpenSpec.ofChange paintFromWrong)

/-- 'hachurelaw10.PaintNil': WHATEVER THE INPUT: true; the input reads as it did. -/
def paintNilSpec : ChangeSpec := { name := "paintNil", fn := fun _ => fun
  | [d1, d2, d3, d4] => { results := [.lit (.bool true)], args := [d1, d2, d3, d4] }
  | _ => none }
def paintNilRow : OpenClaim := { program := "ytkphmcaoioaglaa", sum := "26012a26a841c3390fea95021900cdf6ec526c318f0dbb0b7a66e39a135f0710", func := "hachure/hachurelaw10.PaintNil", spec := "paintNil", unfollowed := true, recurses := true, apart := false }
def PaintNilSaid : Prop := paintNilRow.holds Try.pinned (OpenSpec.ofChange paintNilSpec)

/-- ITS FALSE NEIGHBOUR: 'it returns false'. Refute it at one input. -/
def paintNilWrong : ChangeSpec := { name := "paintNil", fn := fun _ => fun
  | [d1, d2, d3, d4] => { results := [.lit (.bool false)], args := [d1, d2, d3, d4] }
  | _ => none }
def PaintNilWrongFalsely : Prop := paintNilRow.holds Try.pinned (OpenSpec.ofChange paintNilWrong)

/-- 'hachurelaw20.AreaNil': WHATEVER THE INPUT: true; the input reads as it did. -/
def areaNilSpec : ChangeSpec := { name := "areaNil", fn := fun _ => fun
  | [d1, d2] => { results := [.lit (.bool true)], args := [d1, d2] }
  | _ => none }
def areaNilRow : OpenClaim := { program := "ytkphmcaoioaglaa", sum := "26012a26a841c3390fea95021900cdf6ec526c318f0dbb0b7a66e39a135f0710", func := "hachure/hachurelaw20.AreaNil", spec := "areaNil", unfollowed := true, recurses := true, apart := false }
def AreaNilSaid : Prop := areaNilRow.holds Try.pinned (OpenSpec.ofChange areaNilSpec)

/-- ITS FALSE NEIGHBOUR: 'it returns false'. Refute it at one input. -/
def areaNilWrong : ChangeSpec := { name := "areaNil", fn := fun _ => fun
  | [d1, d2] => { results := [.lit (.bool false)], args := [d1, d2] }
  | _ => none }
def AreaNilWrongFalsely : Prop := areaNilRow.holds Try.pinned (OpenSpec.ofChange areaNilWrong)

/-- 'hachurelaw09.GridNil': WHATEVER THE INPUT: true; the input reads as it did. -/
def gridNilSpec : ChangeSpec := { name := "gridNil", fn := fun _ => fun
  | [d1, d2, d3, d4] => { results := [.lit (.bool true)], args := [d1, d2, d3, d4] }
  | _ => none }
def gridNilRow : OpenClaim := { program := "ytkphmcaoioaglaa", sum := "26012a26a841c3390fea95021900cdf6ec526c318f0dbb0b7a66e39a135f0710", func := "hachure/hachurelaw09.GridNil", spec := "gridNil", unfollowed := true, recurses := true, apart := false }
def GridNilSaid : Prop := gridNilRow.holds Try.pinned (OpenSpec.ofChange gridNilSpec)

/-- ITS FALSE NEIGHBOUR: 'it returns false'. Refute it at one input. -/
def gridNilWrong : ChangeSpec := { name := "gridNil", fn := fun _ => fun
  | [d1, d2, d3, d4] => { results := [.lit (.bool false)], args := [d1, d2, d3, d4] }
  | _ => none }
def GridNilWrongFalsely : Prop := gridNilRow.holds Try.pinned (OpenSpec.ofChange gridNilWrong)

/-- 'hachurelaw11.PatchNil': WHATEVER THE INPUT: true; the input reads as it did. -/
def patchNilSpec : ChangeSpec := { name := "patchNil", fn := fun _ => fun
  | [d] => { results := [.lit (.bool true)], args := [d] }
  | _ => none }
def patchNilRow : OpenClaim := { program := "ytkphmcaoioaglaa", sum := "26012a26a841c3390fea95021900cdf6ec526c318f0dbb0b7a66e39a135f0710", func := "hachure/hachurelaw11.PatchNil", spec := "patchNil", unfollowed := true, recurses := true, apart := false }
def PatchNilSaid : Prop := patchNilRow.holds Try.pinned (OpenSpec.ofChange patchNilSpec)

/-- ITS FALSE NEIGHBOUR: 'it returns false'. Refute it at one input. -/
def patchNilWrong : ChangeSpec := { name := "patchNil", fn := fun _ => fun
  | [d] => { results := [.lit (.bool false)], args := [d] }
  | _ => none }
def PatchNilWrongFalsely : Prop := patchNilRow.holds Try.pinned (OpenSpec.ofChange patchNilWrong)

/- THE SECOND FORM. 'bulk': how many values and letters a reading holds, each counted each time it is reached (what is shared counts as often as it is met; a slice's spare places count too). A statement '..UptoSaid' is the law's where the arguments, and the package variables that the reading takes, are together of bulk at most 1048576: NARROWER than '..Said'. Prove '..Said' where nothing that the law and all that it calls make is longer than what came in: it says more and counts as full. Else prove '..UptoSaid'. A law counts once. -/
mutual
def uptoBulk {H : Type} : DataW H → Nat
  | .lit (.string bytes) => bytes.length + 1
  | .lit _ => 1
  | .nil => 1
  | .ptr d => uptoBulk d + 1
  | .slice elems spare => uptoBulkAll elems + uptoBulkAll spare + 1
  | .agg parts => uptoBulkAll parts + 1
  | .iface _ d => uptoBulk d + 1
  | .map entries => uptoBulkEntries entries + 1
  | .held _ => 1
def uptoBulkAll {H : Type} : List (DataW H) → Nat
  | [] => 0
  | d :: r => uptoBulk d + uptoBulkAll r
def uptoBulkEntries {H : Type} : List (Lit × DataW H) → Nat
  | [] => 0
  | x :: r => uptoBulkEntry x + uptoBulkEntries r
def uptoBulkEntry {H : Type} : Lit × DataW H → Nat
  | (.string bytes, d) => bytes.length + uptoBulk d + 1
  | (_, d) => uptoBulk d + 1
 end
def uptoSmall : (H : Type) → List (DataW H) → Bool := fun _ ds => decide (uptoBulkAll ds ≤ 1048576)
def OpenSpec.upto (s : _root_.Go.ChangeSpec) : _root_.Go.OpenSpec := { _root_.Go.OpenSpec.ofChange s with cond := some uptoSmall }

/-- 'hachurelaw19.FenPlays', WHERE WHAT IT READS IS OF BULK AT MOST 1048576: true; the input reads as it did. -/
def fenPlaysUptoRow : OpenClaim := { program := "ytkphmcaoioaglaa", sum := "26012a26a841c3390fea95021900cdf6ec526c318f0dbb0b7a66e39a135f0710", func := "hachure/hachurelaw19.FenPlays", spec := "fenPlays", apart := false, narrowed := true }
def FenPlaysUptoSaid : Prop := fenPlaysUptoRow.holds Try.pinned (OpenSpec.upto fenPlaysSpec)

/-- 'hachurelaw19.FenNil', WHERE WHAT IT READS IS OF BULK AT MOST 1048576: true; the input reads as it did. -/
def fenNilUptoRow : OpenClaim := { program := "ytkphmcaoioaglaa", sum := "26012a26a841c3390fea95021900cdf6ec526c318f0dbb0b7a66e39a135f0710", func := "hachure/hachurelaw19.FenNil", spec := "fenNil", unfollowed := true, recurses := true, apart := false, narrowed := true }
def FenNilUptoSaid : Prop := fenNilUptoRow.holds Try.pinned (OpenSpec.upto fenNilSpec)

/-- 'hachurelaw08.SlabSets', WHERE WHAT IT READS IS OF BULK AT MOST 1048576: true; the input reads as it did. -/
def slabSetsUptoRow : OpenClaim := { program := "ytkphmcaoioaglaa", sum := "26012a26a841c3390fea95021900cdf6ec526c318f0dbb0b7a66e39a135f0710", func := "hachure/hachurelaw08.SlabSets", spec := "slabSets", unfollowed := true, recurses := true, apart := false, narrowed := true }
def SlabSetsUptoSaid : Prop := slabSetsUptoRow.holds Try.pinned (OpenSpec.upto slabSetsSpec)

/-- 'hachurelaw08.SlabPlays', WHERE WHAT IT READS IS OF BULK AT MOST 1048576: true; the input reads as it did. -/
def slabPlaysUptoRow : OpenClaim := { program := "ytkphmcaoioaglaa", sum := "26012a26a841c3390fea95021900cdf6ec526c318f0dbb0b7a66e39a135f0710", func := "hachure/hachurelaw08.SlabPlays", spec := "slabPlays", unfollowed := true, recurses := true, apart := false, narrowed := true }
def SlabPlaysUptoSaid : Prop := slabPlaysUptoRow.holds Try.pinned (OpenSpec.upto slabPlaysSpec)

/-- 'hachurelaw08.SlabNil', WHERE WHAT IT READS IS OF BULK AT MOST 1048576: true; the input reads as it did. -/
def slabNilUptoRow : OpenClaim := { program := "ytkphmcaoioaglaa", sum := "26012a26a841c3390fea95021900cdf6ec526c318f0dbb0b7a66e39a135f0710", func := "hachure/hachurelaw08.SlabNil", spec := "slabNil", unfollowed := true, recurses := true, apart := false, narrowed := true }
def SlabNilUptoSaid : Prop := slabNilUptoRow.holds Try.pinned (OpenSpec.upto slabNilSpec)

/-- 'hachurelaw09.GridPlays', WHERE WHAT IT READS IS OF BULK AT MOST 1048576: true; the input reads as it did. -/
def gridPlaysUptoRow : OpenClaim := { program := "ytkphmcaoioaglaa", sum := "26012a26a841c3390fea95021900cdf6ec526c318f0dbb0b7a66e39a135f0710", func := "hachure/hachurelaw09.GridPlays", spec := "gridPlays", unfollowed := true, recurses := true, apart := false, narrowed := true }
def GridPlaysUptoSaid : Prop := gridPlaysUptoRow.holds Try.pinned (OpenSpec.upto gridPlaysSpec)

/-- 'hachurelaw10.PaintFrom', WHERE WHAT IT READS IS OF BULK AT MOST 1048576: true; the input reads as it did. -/
def paintFromUptoRow : OpenClaim := { program := "ytkphmcaoioaglaa", sum := "26012a26a841c3390fea95021900cdf6ec526c318f0dbb0b7a66e39a135f0710", func := "hachure/hachurelaw10.PaintFrom", spec := "paintFrom", unfollowed := true, recurses := true, apart := false, narrowed := true }
def PaintFromUptoSaid : Prop := paintFromUptoRow.holds Try.pinned (OpenSpec.upto paintFromSpec)

/-- 'hachurelaw10.PaintNil', WHERE WHAT IT READS IS OF BULK AT MOST 1048576: true; the input reads as it did. -/
def paintNilUptoRow : OpenClaim := { program := "ytkphmcaoioaglaa", sum := "26012a26a841c3390fea95021900cdf6ec526c318f0dbb0b7a66e39a135f0710", func := "hachure/hachurelaw10.PaintNil", spec := "paintNil", unfollowed := true, recurses := true, apart := false, narrowed := true }
def PaintNilUptoSaid : Prop := paintNilUptoRow.holds Try.pinned (OpenSpec.upto paintNilSpec)

/-- 'hachurelaw20.AreaNil', WHERE WHAT IT READS IS OF BULK AT MOST 1048576: true; the input reads as it did. -/
def areaNilUptoRow : OpenClaim := { program := "ytkphmcaoioaglaa", sum := "26012a26a841c3390fea95021900cdf6ec526c318f0dbb0b7a66e39a135f0710", func := "hachure/hachurelaw20.AreaNil", spec := "areaNil", unfollowed := true, recurses := true, apart := false, narrowed := true }
def AreaNilUptoSaid : Prop := areaNilUptoRow.holds Try.pinned (OpenSpec.upto areaNilSpec)

/-- 'hachurelaw09.GridNil', WHERE WHAT IT READS IS OF BULK AT MOST 1048576: true; the input reads as it did. -/
def gridNilUptoRow : OpenClaim := { program := "ytkphmcaoioaglaa", sum := "26012a26a841c3390fea95021900cdf6ec526c318f0dbb0b7a66e39a135f0710", func := "hachure/hachurelaw09.GridNil", spec := "gridNil", unfollowed := true, recurses := true, apart := false, narrowed := true }
def GridNilUptoSaid : Prop := gridNilUptoRow.holds Try.pinned (OpenSpec.upto gridNilSpec)

/-- 'hachurelaw11.PatchNil', WHERE WHAT IT READS IS OF BULK AT MOST 1048576: true; the input reads as it did. -/
def patchNilUptoRow : OpenClaim := { program := "ytkphmcaoioaglaa", sum := "26012a26a841c3390fea95021900cdf6ec526c318f0dbb0b7a66e39a135f0710", func := "hachure/hachurelaw11.PatchNil", spec := "patchNil", unfollowed := true, recurses := true, apart := false, narrowed := true }
def PatchNilUptoSaid : Prop := patchNilUptoRow.holds Try.pinned (OpenSpec.upto patchNilSpec)

end Rows
end Go.Proofs.Ytkphmcaoioaglaa
