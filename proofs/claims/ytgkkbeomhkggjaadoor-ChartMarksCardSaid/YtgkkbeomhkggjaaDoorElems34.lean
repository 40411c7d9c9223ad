/- Lines and legends that came in. -/
import Derived.Test.YtgkkbeomhkggjaaDoorK19
import Derived.Test.YtgkkbeomhkggjaaDoorElems
set_option linter.unusedVariables false
set_option linter.unusedSimpArgs false
namespace Go.Proofs.YtgkkbeomhkggjaaDoor
open Go Go.RowKit Go.Joins
def bsL (s : ByteArray) : List Int := s.data.toList.map fun b => (b.toNat : Int)
theorem bs_bsL (s : ByteArray) : bs (bsL s) = s := by
  apply ByteArray.ext
  apply Array.ext'
  simp [bs, bsL, Function.comp_def]
theorem byt_bsL (s : ByteArray) : Byt (bsL s) := fun z hz => by
  obtain ⟨b, _, rfl⟩ := List.mem_map.1 hz
  have : b.toNat < 256 := b.toNat_lt
  omega
def lnCells (l : List Int) : List Value := [.string (bs l)]
theorem lnCells_eq (ls : List (List Int)) : ls.flatMap lnCells = strs ls := by
  unfold strs
  induction ls with
  | nil => rfl
  | cons l ls ih => rw [List.flatMap_cons, ih]; rfl
def Bd.ok (b : Bd) : Prop := I6 b.f ∧ -2147483648 ≤ b.s ∧ b.s ≤ 2147483647
theorem Bd.cells_len (b : Bd) : b.cells.length = 2 := rfl
section
variable {H : Type} {enc : TypeId × Value → H} {P : Program} {w : World}
theorem line_of_trod {t : TypeId} {fuel : Nat} {cs : List Value} {x : DataW H × List MemPlace} (ht : P.underlying t = some .string) (h : DataW.trod enc P w 0 (fun _ => true) true fuel t cs = some x) : ∃ l, cs = lnCells l ∧ Byt l := by
  obtain ⟨s, rfl, _, _⟩ := DataW.trod_string ht h
  exact ⟨bsL s, by unfold lnCells; rw [bs_bsL], byt_bsL s⟩
theorem band_of_trod {t : TypeId} {f0 f1 : Field} {fuel : Nat} {cs : List Value} {x : DataW H × List MemPlace} (hs : P.underlying t = some (.struct #[f0, f1])) (hC : P.cellsOf t = 2)
    (h0 : P.underlying f0.type = some (.int .i64)) (c0 : P.cellsOf f0.type = 1) (o0 : f0.offset = 0) (h1 : P.underlying f1.type = some (.int .i32)) (c1 : P.cellsOf f1.type = 1) (o1 : f1.offset = 1) (h : DataW.trod enc P w 0 (fun _ => true) true fuel t cs = some x) : ∃ b : Bd, cs = b.cells ∧ b.ok := by
  obtain ⟨y0, y1, n, hx, hl, g0, g1⟩ := Go.ChangeShapes.trod_struct2 hs h
  rw [hC] at hl
  match cs, hl with
  | [a0, a1], _ =>
    rw [c0, o0] at g0; rw [c1, o1] at g1
    have g0' : DataW.trod enc P w 0 (fun _ => true) true n f0.type [a0] = some y0 := g0
    have g1' : DataW.trod enc P w 0 (fun _ => true) true n f1.type [a1] = some y1 := g1
    obtain ⟨f, e0, _, w0⟩ := DataW.trod_int h0 g0'
    obtain ⟨s, e1, _, w1⟩ := DataW.trod_int h1 g1'
    simp only [List.cons.injEq, and_true] at e0 e1
    subst e0; subst e1
    rw [Lit.wf_int_iff, show IntKind.i32.min = -2147483648 from by decide, show IntKind.i32.max = 2147483647 from by decide] at w1
    exact ⟨⟨f, s⟩, rfl, wf_i6 w0, w1⟩
end
end Go.Proofs.YtgkkbeomhkggjaaDoor
