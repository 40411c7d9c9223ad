/- Slices of two numbers each. -/
import Derived.Test.YtjhbomgfjffmdaaWords
import Derived.Deep.SlicePairs
set_option linter.unusedVariables false
set_option linter.unusedSimpArgs false
namespace Go.Proofs.Ytjhbomgfjffmdaa
open Go.RowKit
/-- the slice (A, n) reads as these pairs -/
def Pairs (k : IntKind) (w : World) (A : Option Addr) (n : Nat) (U O : Nat → Int) : Prop :=
  0 < n → ∃ b off, A = some ⟨b, off, none⟩ ∧ b < w.heap.size ∧ ∀ j, j < n → w.cell? ⟨b, off + j * 2, none⟩ = some (.int k (U j)) ∧ w.cell? ⟨b, off + j * 2 + 1, none⟩ = some (.int k (O j))
section
variable {k : IntKind} {w w' : World} {A : Option Addr} {n : Nat} {U O : Nat → Int}
theorem Pairs.below {B : Nat} (h : Pairs k w A n U O) (hB : w.heap.size ≤ B) (hb : Below B w w') : Pairs k w' A n U O := fun hn => by
  obtain ⟨b, off, e, hlt, hc⟩ := h hn
  have hk : ∀ o, w'.cell? ⟨b, o, none⟩ = w.cell? ⟨b, o, none⟩ := fun o => hb.cell (p := ⟨b, o, none⟩) (by simp only; omega)
  exact ⟨b, off, e, Nat.lt_of_lt_of_le hlt hb.size, fun j hj => by rw [hk, hk]; exact hc j hj⟩
end
section
variable {H : Type} {enc : TypeId × Value → H} {P : Program} {w : World}
def numV : Value → Int
  | .int _ z => z
  | _ => 0
theorem pairs_of_trod {k : IntKind} {t e : TypeId} {f0 f1 : Field} {a : Option Addr} {len cap : Nat} {d : DataW H} {p : List MemPlace} (ht : P.underlying t = some (.slice e)) (he : P.underlying e = some (.struct #[f0, f1]))
    (ce : P.cellsOf e = 2) (o0 : f0.offset = 0) (o1 : f1.offset = 1) (c0 : P.cellsOf f0.type = 1) (c1 : P.cellsOf f1.type = 1) (u0 : P.underlying f0.type = some (.int k)) (u1 : P.underlying f1.type = some (.int k))
    (h : DataW.Trod enc P w 0 (fun _ => true) true t (.slice a len cap) d p) (hlt : ∀ x ∈ p, x.block < w.heap.size) :
    len ≤ cap ∧ cap ≤ maxLen ∧ ∃ U O, Pairs k w a len U O ∧ ∀ j, j < len → (Lit.int k (U j)).wf = true ∧ (Lit.int k (O j)).wf = true := by
  obtain ⟨fuel, hf⟩ := h
  rcases Go.Deep.open_slice_pairs ht he ce o0 o1 c0 c1 hf with ⟨hcs, _⟩ | ⟨a', len', cap', m, n, V0, V1, D0, D1, P0, P1, hcs, _, hl, hm, hmm, hx, hcell⟩
  · simp [Value.cells] at hcs
    obtain ⟨rfl, rfl, rfl⟩ := hcs
    exact ⟨Nat.le_refl _, Nat.zero_le _, fun _ => 0, fun _ => 0, fun h => absurd h (Nat.lt_irrefl _), fun j h => absurd h (Nat.not_lt_zero _)⟩
  · simp [Value.cells] at hcs
    obtain ⟨rfl, rfl, rfl⟩ := hcs
    simp only [if_true] at hmm
    subst hmm
    have hp := (Prod.mk.inj hx).2
    have n0 : ∀ i, i < m → V0 i = .int k (numV (V0 i)) ∧ V1 i = .int k (numV (V1 i)) ∧ (Lit.int k (numV (V0 i))).wf = true ∧ (Lit.int k (numV (V1 i))).wf = true := by
      intro i hi
      obtain ⟨_, _, g0, g1⟩ := hcell i hi
      obtain ⟨x, ex, _, wx⟩ := DataW.trod_int u0 g0
      obtain ⟨y, ey, _, wy⟩ := DataW.trod_int u1 g1
      have ex : V0 i = .int k x := by simpa using ex
      have ey : V1 i = .int k y := by simpa using ey
      rw [ex, ey]
      exact ⟨rfl, rfl, wx, wy⟩
    refine ⟨hl, hm, fun i => numV (V0 i), fun i => numV (V1 i), fun hn => ?_, fun j hj => (n0 j (by omega)).2.2⟩
    have h0 := (hcell 0 (by omega)).1
    have hs : a'.spot = none := by
      have h1 : a'.add (0 * 2) = a' := by simp [Addr.add]
      rw [h1] at h0
      unfold World.cell? at h0
      split at h0
      · split at h0
        · cases h0
        · rename_i h2; simpa using h2
      · cases h0
    have ee : a' = ⟨a'.block, a'.off, none⟩ := by rw [← hs]
    have ea : ∀ j, a'.add j = ⟨a'.block, a'.off + j, none⟩ := by
      intro j
      unfold Addr.add
      split
      · rename_i hj0; subst hj0; exact ee
      · rfl
    refine ⟨a'.block, a'.off, congrArg some ee, ?_, fun j hj => ?_⟩
    · have h1 : MemPlace.cell a'.block a'.off ∈ p := by rw [hp]; exact List.mem_append_left _ (MemPlace.mem_row.2 ⟨0, by omega, by simp⟩)
      exact hlt _ h1
    · obtain ⟨g0, g1, _, _⟩ := hcell j (by omega)
      rw [ea] at g0 g1
      obtain ⟨e0, e1, _, _⟩ := n0 j (by omega)
      rw [e0] at g0
      rw [e1] at g1
      exact ⟨g0, g1⟩
end

end Go.Proofs.Ytjhbomgfjffmdaa
