/- Slices whose elements are opened one by one; patches. -/
import Derived.Test.YtgkkbeomhkggjaaDoorFlats
import Derived.Test.YtgkkbeomhkggjaaDoorMC
import Derived.Test.YtgkkbeomhkggjaaDoorMA
import Derived.Deep.Strs
import Derived.Lib.SmallJoins
set_option linter.unusedVariables false
set_option linter.unusedSimpArgs false
namespace Go.Proofs.YtgkkbeomhkggjaaDoor
open Go Go.RowKit Go.Joins

section
variable {H : Type} {enc : TypeId × Value → H} {P : Program} {w : World}
theorem elems_of_trod {α : Type} {t e : TypeId} {m : Nat} {a : Option Addr} {len cap : Nat} {d : DataW H} {p : List MemPlace} (f : α → List Value) (ok : α → Prop) (ht : P.underlying t = some (.slice e)) (hm : P.cellsOf e = m) (h0 : 0 < m)
    (hf : ∀ (fuel : Nat) (cs : List Value) (x : DataW H × List MemPlace), DataW.trod enc P w 0 (fun _ => true) true fuel e cs = some x → ∃ a, cs = f a ∧ ok a) (hlen : ∀ a, (f a).length = m)
    (h : DataW.Trod enc P w 0 (fun _ => true) true t (.slice a len cap) d p) : len ≤ cap ∧ cap ≤ maxLen ∧ ∃ xs : List α, Rd w a (xs.flatMap f) ∧ xs.length = len ∧ ∀ x ∈ xs, ok x := by
  obtain ⟨fuel, hx⟩ := h
  rcases DataW.trod_slice ht hx with ⟨hcs, _⟩ | ⟨a', len', cap', elems, rest, n', _, hcs, _, _, hl, hmx, hel, hat, _⟩
  · simp [Value.cells] at hcs
    obtain ⟨rfl, rfl, rfl⟩ := hcs
    exact ⟨Nat.le_refl _, Nat.zero_le _, [], (fun j u hu => by simp at hu), by simp, fun z hz => by cases hz⟩
  · simp [Value.cells] at hcs
    obtain ⟨rfl, rfl, rfl⟩ := hcs
    rw [hm] at hat
    have hone : ∀ i, i < len → ∃ x : α, ok x ∧ ∀ j, j < m → w.cell? (a'.add (i * m + j)) = (f x)[j]? := fun i hi => by
      have h1 := hat i hi
      rw [List.getElem?_eq_getElem (by omega)] at h1
      obtain ⟨cs, hc, h2⟩ := Option.bind_eq_some_iff.1 h1
      obtain ⟨x, e1, hw⟩ := hf _ _ _ h2
      refine ⟨x, hw, fun j hj => ?_⟩
      have h3 := World.cells?_some hc
      have := h3.2.2 j hj
      rw [e1] at this
      rw [← this, add_add]
    have hfl : ∀ xs : List α, (xs.flatMap f).length = xs.length * m := fun xs => by
      induction xs with
      | nil => simp
      | cons x xs ih => rw [List.flatMap_cons, List.length_append, ih, hlen, List.length_cons, Nat.succ_mul, Nat.add_comm]
    have hall : ∀ i, i ≤ len → ∃ xs : List α, (∀ x ∈ xs, ok x) ∧ xs.length = i ∧ ∀ j, j < i * m → w.cell? (a'.add j) = (xs.flatMap f)[j]? := fun i => by
      induction i with
      | zero => exact fun _ => ⟨[], (fun z hz => by cases hz), by simp, fun j hj => by omega⟩
      | succ i ih =>
        intro hi
        obtain ⟨xs, hw, hl1, hc⟩ := ih (by omega)
        obtain ⟨y, hw2, hc2⟩ := hone i (by omega)
        refine ⟨xs ++ [y], fun z hz => (List.mem_append.1 hz).elim (hw z) (fun q => by rw [List.mem_singleton.1 q]; exact hw2), by simp [hl1], fun j hj => ?_⟩
        rw [Nat.succ_mul] at hj
        rw [List.flatMap_append]
        by_cases hji : j < i * m
        · rw [hc j hji, List.getElem?_append_left (by rw [hfl, hl1]; exact hji)]
        · have := hc2 (j - i * m) (by omega)
          rw [show i * m + (j - i * m) = j by omega] at this
          rw [this, List.getElem?_append_right (by rw [hfl, hl1]; omega), hfl, hl1]
          simp
    obtain ⟨xs, hw, hlz, hc⟩ := hall len (Nat.le_refl _)
    refine ⟨hl, hmx, xs, fun j u hu => ?_, hlz, hw⟩
    have hj : j < len * m := by
      have := (List.getElem?_eq_some_iff.1 hu).1
      rw [hfl, hlz] at this; exact this
    have h1 := hc j hj
    rw [hu] at h1
    have hcell := hc 0 (by omega)
    rw [List.getElem?_eq_getElem (by rw [hfl, hlz]; omega), show a'.add 0 = a' from by simp [Addr.add]] at hcell
    have hs : a'.spot = none := by
      unfold World.cell? at hcell
      split at hcell
      · split at hcell
        · cases hcell
        · rename_i h2; simpa using h2
      · cases hcell
    have ee : a' = ⟨a'.block, a'.off, none⟩ := by rw [← hs]
    have ea : a'.add j = ⟨a'.block, a'.off + j, none⟩ := by
      rw [ee]; exact add_at _ _ _
    rw [ea] at h1
    have hb : a'.block < w.heap.size := by
      have h2 := h1
      unfold World.cell? at h2
      split at h2
      · rename_i c T fr hb; exact heap_lt hb
      · cases h2
    exact ⟨a'.block, a'.off, congrArg some ee, hb, h1⟩
end
theorem wf_i6 {a : Int} (h : (Lit.int .i64 a).wf = true) : I6 a := by
  rw [Lit.wf_int_iff, show IntKind.i64.min = -9223372036854775808 from by decide, show IntKind.i64.max = 9223372036854775807 from by decide] at h
  exact h
/-- a list of whole numbers that came in -/
structure Li where
  A : Option Addr
  n : Nat
  c : Nat
  zs : List Int
def Li.val (l : Li) : Value := .slice l.A l.n l.c
structure Li.ok (w : World) (l : Li) : Prop where
  rd : Rd w l.A (vi .i64 l.zs)
  len : l.zs.length = l.n
  le : l.n ≤ l.c
  mx : l.c ≤ maxLen
  wf : ∀ z ∈ l.zs, I6 z
theorem Li.ok.below {w w' : World} {l : Li} (h : l.ok w) (hb : Below w.heap.size w w') : l.ok w' := ⟨h.rd.below hb, h.len, h.le, h.mx, h.wf⟩
/-- a patch that came in -/
structure Pt where
  x0 : Int
  y0 : Int
  x1 : Int
  y1 : Int
  o : Li
  q : Li
def Pt.cells (p : Pt) : List Value := [.int .i64 p.x0, .int .i64 p.y0, .int .i64 p.x1, .int .i64 p.y1, p.o.val, p.q.val]
structure Pt.ok (w : World) (p : Pt) : Prop where
  b0 : I6 p.x0
  b1 : I6 p.y0
  b2 : I6 p.x1
  b3 : I6 p.y1
  ho : p.o.ok w
  hq : p.q.ok w
theorem Pt.ok.below {w w' : World} {p : Pt} (h : p.ok w) (hb : Below w.heap.size w w') : p.ok w' := ⟨h.b0, h.b1, h.b2, h.b3, h.ho.below hb, h.hq.below hb⟩
theorem Pt.cells_len (p : Pt) : p.cells.length = 6 := rfl
def ptCells (l : List Pt) : List Value := l.flatMap Pt.cells
theorem flat_get {α : Type} {f : α → List Value} {m : Nat} (hm : ∀ a, (f a).length = m) : ∀ {l : List α} {i j : Nat} {a : α}, l[i]? = some a → j < m → (l.flatMap f)[i * m + j]? = (f a)[j]?
  | [], _, _, _, h, _ => by simp at h
  | b :: l, 0, j, a, h, hj => by
    simp only [List.getElem?_cons_zero, Option.some.injEq] at h
    subst h
    rw [List.flatMap_cons, Nat.zero_mul, Nat.zero_add, List.getElem?_append_left (by rw [hm]; exact hj)]
  | b :: l, i + 1, j, a, h, hj => by
    rw [List.getElem?_cons_succ] at h
    rw [List.flatMap_cons, Nat.succ_mul, List.getElem?_append_right (by rw [hm]; omega), hm, show i * m + m + j - m = i * m + j by omega]
    exact flat_get hm h hj
theorem flat_len {α : Type} {f : α → List Value} {m : Nat} (hm : ∀ a, (f a).length = m) (xs : List α) : (xs.flatMap f).length = xs.length * m := by
  induction xs with
  | nil => simp
  | cons x xs ih => rw [List.flatMap_cons, List.length_append, ih, hm, List.length_cons, Nat.succ_mul, Nat.add_comm]
theorem pt_len (l : List Pt) : (ptCells l).length = l.length * 6 := flat_len Pt.cells_len l
theorem pt_get {l : List Pt} {i : Nat} {p : Pt} (h : l[i]? = some p) : ∀ (j : Nat) (v : Value), p.cells[j]? = some v → (ptCells l)[i * 6 + j]? = some v := fun j v hv => by
  have hj : j < 6 := (List.getElem?_eq_some_iff.1 hv).1
  exact (flat_get Pt.cells_len h hj).trans hv
section
variable {H : Type} {enc : TypeId × Value → H} {P : Program} {w : World}
theorem list6 {α : Type} {cs : List α} (h : cs.length = 6) : ∃ c0 c1 c2 c3 c4 c5, cs = [c0, c1, c2, c3, c4, c5] := by
  match cs, h with
  | [c0, c1, c2, c3, c4, c5], _ => exact ⟨c0, c1, c2, c3, c4, c5, rfl⟩
theorem li_of_trod {t e : TypeId} {fuel : Nat} {cs : List Value} {x : DataW H × List MemPlace} (ht : P.underlying t = some (.slice e)) (he : flatB P .i64 1 e = true) (ce : P.cellsOf e = 1) (h : DataW.trod enc P w 0 (fun _ => true) true fuel t cs = some x) : ∃ l : Li, cs = [l.val] ∧ l.ok w := by
  obtain ⟨A, l1, k1, rfl⟩ := slice_form ht h
  obtain ⟨i1, i2, zs, i3, i4, i5⟩ := flats_of_trod (k := .i64) (n := 1) (m := 1) (d := x.1) (p := x.2) ht he ce (by decide) ⟨fuel, by simpa [Value.cells] using h⟩
  exact ⟨⟨A, l1, k1, zs⟩, rfl, i3, by simpa using i4, i1, i2, fun z hz => wf_i6 (i5 z hz)⟩
theorem patch_of_trod {t e : TypeId} {f0 f1 f2 : Field} {fl : Nat} {fuel : Nat} {cs : List Value} {x : DataW H × List MemPlace} (hs : P.underlying t = some (.struct #[f0, f1, f2])) (hC : P.cellsOf t = 6)
    (hf0 : flatB P .i64 fl f0.type = true) (c0 : P.cellsOf f0.type = 4) (o0 : f0.offset = 0) (h1 : P.underlying f1.type = some (.slice e)) (c1 : P.cellsOf f1.type = 1) (o1 : f1.offset = 4) (h2 : P.underlying f2.type = some (.slice e)) (c2 : P.cellsOf f2.type = 1) (o2 : f2.offset = 5)
    (he : flatB P .i64 1 e = true) (ce : P.cellsOf e = 1) (h : DataW.trod enc P w 0 (fun _ => true) true fuel t cs = some x) : ∃ p : Pt, cs = p.cells ∧ p.ok w := by
  obtain ⟨y0, y1, y2, n, hx, hl, g0, g1, g2⟩ := Go.Deep.trod_struct3 hs h
  rw [hC] at hl
  obtain ⟨a0, a1, a2, a3, a4, a5, rfl⟩ := list6 hl
  rw [c0, o0] at g0; rw [c1, o1] at g1; rw [c2, o2] at g2
  have g0' : DataW.trod enc P w 0 (fun _ => true) true n f0.type [a0, a1, a2, a3] = some y0 := g0
  have g1' : DataW.trod enc P w 0 (fun _ => true) true n f1.type [a4] = some y1 := g1
  have g2' : DataW.trod enc P w 0 (fun _ => true) true n f2.type [a5] = some y2 := g2
  obtain ⟨zs0, e0, w0, _⟩ := flat_of_trod fl _ _ _ _ hf0 g0'
  obtain ⟨l1, e1, k1⟩ := li_of_trod h1 he ce g1'
  obtain ⟨l2, e2, k2⟩ := li_of_trod h2 he ce g2'
  simp only [List.cons.injEq, and_true] at e1 e2
  subst e1; subst e2
  match zs0, e0 with
  | [x0, x1, x2, x3], e0 =>
    simp only [vi, List.map_cons, List.map_nil, List.cons.injEq, and_true] at e0
    obtain ⟨rfl, rfl, rfl, rfl⟩ := e0
    exact ⟨⟨x0, x1, x2, x3, l1, l2⟩, rfl, wf_i6 (w0 _ (by simp)), wf_i6 (w0 _ (by simp)), wf_i6 (w0 _ (by simp)), wf_i6 (w0 _ (by simp)), k1, k2⟩
end
end Go.Proofs.YtgkkbeomhkggjaaDoor
