/- A round's frame: what is no cells stays. -/
import Derived.Test.YtbnjbgcadkdljaaDoorIn
set_option linter.unusedVariables false
set_option linter.unusedSimpArgs false
namespace Go.Proofs.YtbnjbgcadkdljaaDoor
open Go Go.RowKit
def othersAb (W : World) (B0 : Nat) : Ab where
  ok B X := B ≤ B0 ∧ W.heap.size ≤ X.heap.size ∧ ∀ k o, B0 ≤ k → W.heap[k]? = some o → o.isCells = false → X.heap[k]? = some o
  has k := B0 ≤ k ∧ ∃ o, W.heap[k]? = some o ∧ o.isCells = false
  lt := fun B X h k hk => ⟨Nat.le_trans h.1 hk.1, by obtain ⟨o, h1, h2⟩ := hk.2; exact heap_lt (h.2.2 k o hk.1 h1 h2)⟩
  keep := fun B X X' row h hg hne => ⟨h.1, Nat.le_trans h.2.1 hg.size, fun k o h1 h2 h3 => by
    have h4 := h.2.2 k o h1 h2 h3
    rw [hg.block k (heap_lt h4) (fun e => hne k ⟨h1, o, h2, h3⟩ e.symm)]; exact h4⟩
  mono := fun B B' X h hB => ⟨Nat.le_trans hB h.1, h.2⟩
def notAbs : Ob → Bool
  | .abs _ => false
  | _ => true
theorem Ob.cells_of {B : Nat} {w : World} {o : Ob} {k : Nat} {x : Obj} (h : o.ok B w) (hn : notAbs o = true) (hk : o.has k) (hx : w.heap[k]? = some x) : x.isCells = true := by
  cases o with
  | blk b cs T =>
    obtain rfl : b = k := Option.some.inj hk
    obtain ⟨_, h⟩ := h
    unfold Blk at h
    rw [h] at hx; cases hx; rfl
  | row A n cap xs e size =>
    obtain ⟨_, _, _, h | ⟨g, cur, rfl, _, h, _⟩⟩ := (h : Own _ _ _ _ _ _ _ _)
    · subst h; exact absurd (show (none : Option Nat) = some k from hk) (by simp)
    · have hk' : (if cap = 0 then none else some g) = some k := hk
      split at hk'
      · cases hk'
      · obtain rfl := Option.some.inj hk'
        rw [h] at hx; cases hx; rfl
  | ro b xs =>
    obtain rfl : b = k := Option.some.inj hk
    obtain ⟨_, cur, T, fr, h, _⟩ := (h : Ro _ _ _ _)
    rw [h] at hx; cases hx; rfl
  | abs A => cases hn
theorem HS.others {w0 W : World} {l : List Ob} (h : HS w0 W l) (hn : l.all notAbs = true) : HS w0 W (.abs (othersAb W w0.heap.size) :: l) :=
  h.cons ⟨Nat.le_refl _, Nat.le_refl _, fun _ _ _ h _ => h⟩ fun o' ho' k hk hk' => by
    obtain ⟨_, o, h1, h2⟩ := hk
    have := Ob.cells_of (h.own o' ho') (List.all_eq_true.1 hn o' ho') hk' h1
    rw [this] at h2; cases h2
theorem HS.keeps {w0 W W' : World} {l l' : List Ob} (h : HS w0 W l) (h' : HS w0 W' (.abs (othersAb W w0.heap.size) :: l')) : KeepsOthers W W' := by
  have hk : (othersAb W w0.heap.size).ok w0.heap.size W' := h'.own _ List.mem_cons_self
  refine ⟨hk.2.1, fun k o h1 h2 => ?_⟩
  rcases Nat.lt_or_ge k w0.heap.size with q | q
  · rw [h'.base.block k q, ← h.base.block k q]; exact h1
  · exact hk.2.2 k o q h1 h2
end Go.Proofs.YtbnjbgcadkdljaaDoor
