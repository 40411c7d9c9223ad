/- A patch that is handed in, opened: its rectangle's numbers, its two lists. -/
import Derived.Test.YtgkkbeomhkggjaaFlats
import Derived.Test.YtgkkbeomhkggjaaMA
import Derived.Deep.Strs
import Derived.Lib.SmallJoins
set_option linter.unusedVariables false
set_option linter.unusedSimpArgs false
namespace Go.Proofs.Ytgkkbeomhkggjaa
open Go Go.RowKit Go.Joins Go.ChangeShapes Go.WideShapes

theorem array6 {α : Type} {cs : Array α} (h : cs.size = 6) : ∃ c0 c1 c2 c3 c4 c5, cs = #[c0, c1, c2, c3, c4, c5] := by
  obtain ⟨l⟩ := cs
  match l, h with
  | [c0, c1, c2, c3, c4, c5], _ => exact ⟨c0, c1, c2, c3, c4, c5, rfl⟩
section
variable {H : Type} {enc : TypeId × Value → H} {P : Program} {w : World}
theorem open_patch {r : Reach} {b0 : Nat} {t e : TypeId} {f0 f1 f2 : Field} {v : Value} {d : DataW H} {p : List MemPlace} {fl : Nat} (hs : P.underlying t = some (.struct #[f0, f1, f2])) (hC : P.cellsOf t = 6)
    (hf0 : flatB P .i64 fl f0.type = true) (c0 : P.cellsOf f0.type = 4) (o0 : f0.offset = 0) (h1 : P.underlying f1.type = some (.slice e)) (c1 : P.cellsOf f1.type = 1) (o1 : f1.offset = 4) (h2 : P.underlying f2.type = some (.slice e)) (c2 : P.cellsOf f2.type = 1) (o2 : f2.offset = 5)
    (he : P.underlying e = some (.int .i64)) (ce : P.cellsOf e = 1) (hv : Value.okWide P w r b0 t v) (h : DataW.Trod enc P w 0 (fun _ => true) true t v d p) (hlt : ∀ x ∈ p, x.block < w.heap.size) :
    ∃ (x0 y0 x1 y1 : Int) (A : Option Addr) (n c : Nat) (B : Option Addr) (m c' : Nat) (zs ys : List Int), v = .agg #[.int .i64 x0, .int .i64 y0, .int .i64 x1, .int .i64 y1, .slice A n c, .slice B m c'] ∧
      ((Lit.int .i64 x0).wf = true ∧ (Lit.int .i64 y0).wf = true ∧ (Lit.int .i64 x1).wf = true ∧ (Lit.int .i64 y1).wf = true) ∧ (n ≤ c ∧ c ≤ maxLen ∧ Ints .i64 w A n zs ∧ ∀ z ∈ zs, (Lit.int .i64 z).wf = true) ∧ (m ≤ c' ∧ c' ≤ maxLen ∧ Ints .i64 w B m ys ∧ ∀ z ∈ ys, (Lit.int .i64 z).wf = true) := by
  obtain ⟨cs, rfl, hsz⟩ := okWide_struct hs hv
  obtain ⟨a0, a1, a2, a3, a4, a5, rfl⟩ := array6 (hsz.trans hC)
  obtain ⟨fuel, hf⟩ := h
  obtain ⟨y0, y1, y2, n, hx, _, g0, g1, g2⟩ := Go.Deep.trod_struct3 hs hf
  simp only [Prod.mk.injEq] at hx
  rw [c0, o0] at g0; rw [c1, o1] at g1; rw [c2, o2] at g2
  have g0' : DataW.trod enc P w 0 (fun _ => true) true n f0.type [a0, a1, a2, a3] = some y0 := g0
  have g1' : DataW.trod enc P w 0 (fun _ => true) true n f1.type [a4] = some y1 := g1
  have g2' : DataW.trod enc P w 0 (fun _ => true) true n f2.type [a5] = some y2 := g2
  obtain ⟨zs0, e0, w0, _⟩ := flat_of_trod fl _ _ _ _ hf0 g0'
  obtain ⟨A, l1, k1, e1⟩ := slice_form h1 g1'
  obtain ⟨B, l2, k2, e2⟩ := slice_form h2 g2'
  simp only [List.cons.injEq, and_true] at e1 e2
  subst e1; subst e2
  match zs0, e0 with
  | [x0, x1, x2, x3], e0 =>
    simp only [vi, List.map_cons, List.map_nil, List.cons.injEq, and_true] at e0
    obtain ⟨rfl, rfl, rfl, rfl⟩ := e0
    obtain ⟨i1, i2, zs, i3, i4⟩ := ints_of_trod (k := .i64) (d := y1.1) (p := y1.2) h1 he ce ⟨n, by simpa [Value.cells] using g1'⟩ (fun x hx' => hlt x (by rw [hx.2]; simp [hx']))
    obtain ⟨j1, j2, ys, j3, j4⟩ := ints_of_trod (k := .i64) (d := y2.1) (p := y2.2) h2 he ce ⟨n, by simpa [Value.cells] using g2'⟩ (fun x hx' => hlt x (by rw [hx.2]; simp [hx']))
    exact ⟨x0, x1, x2, x3, A, l1, k1, B, l2, k2, zs, ys, rfl, ⟨w0 _ (by simp), w0 _ (by simp), w0 _ (by simp), w0 _ (by simp)⟩, ⟨i1, i2, i3, i4⟩, ⟨j1, j2, j3, j4⟩⟩
end
end Go.Proofs.Ytgkkbeomhkggjaa
