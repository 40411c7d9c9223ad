/- Slices whose elements are made of whole numbers of one kind alone: the cells as one list of numbers. -/
import Derived.Test.YtgkkbeomhkggjaaDoorMC
import Derived.ChangeArms
import Derived.DataReads
set_option linter.unusedVariables false
set_option linter.unusedSimpArgs false
namespace Go.Proofs.YtgkkbeomhkggjaaDoor
open Go Go.RowKit

def fieldsB (P : Program) (q : TypeId → Bool) : List Field → Nat → Nat → Bool
  | [], off, tot => Nat.beq off tot
  | f :: fs, off, tot => Nat.beq f.offset off && (q f.type && fieldsB P q fs (off + P.cellsOf f.type) tot)
def flatB (P : Program) (k : IntKind) : Nat → TypeId → Bool
  | 0, _ => false
  | n + 1, t => match P.underlying t with
    | some (.int k') => k' == k && Nat.beq (P.cellsOf t) 1
    | some (.struct fs) => fieldsB P (flatB P k n) fs.toList 0 (P.cellsOf t)
    | _ => false
section
variable {H : Type} {enc : TypeId × Value → H} {P : Program} {w : World}
def WfI (k : IntKind) (zs : List Int) : Prop := ∀ z ∈ zs, (Lit.int k z).wf = true
theorem add_add (a : Addr) (x y : Nat) : (a.add x).add y = a.add (x + y) := by
  by_cases hx : x = 0
  · subst hx
    rw [Nat.zero_add, show a.add 0 = a from by simp [Addr.add]]
  · by_cases hy : y = 0
    · subst hy
      simp [Addr.add]
    · have hxy : ¬ x + y = 0 := by omega
      simp [Addr.add, hx, hy, hxy, Nat.add_assoc]
theorem flat_fields {k : IntKind} {q : TypeId → Bool} {cs : List Value} {tot : Nat} (hl : cs.length = tot) : ∀ (fs : List Field) (off : Nat), fieldsB P q fs off tot = true →
    (∀ f ∈ fs, q f.type = true → ∃ zs, (cs.drop f.offset).take (P.cellsOf f.type) = vi k zs ∧ WfI k zs) → ∃ zs, cs.drop off = vi k zs ∧ WfI k zs
  | [], off, h, _ => ⟨[], by rw [List.drop_of_length_le (by rw [hl, Nat.eq_of_beq_eq_true h]; exact Nat.le_refl _)]; rfl, fun z hz => by cases hz⟩
  | f :: fs, off, h, hf => by
    simp only [fieldsB, Bool.and_eq_true] at h
    obtain ⟨h1, h2, h3⟩ := h
    have h1 := Nat.eq_of_beq_eq_true h1
    obtain ⟨z1, e1, w1⟩ := hf f List.mem_cons_self h2
    obtain ⟨z2, e2, w2⟩ := flat_fields hl fs _ h3 fun g hg => hf g (List.mem_cons_of_mem _ hg)
    refine ⟨z1 ++ z2, ?_, fun z hz => (List.mem_append.1 hz).elim (w1 z) (w2 z)⟩
    rw [vi_app, ← e1, ← e2, h1, ← List.drop_drop, List.take_append_drop]
theorem flat_of_trod {k : IntKind} {base : Nat} {sp : Nat → Bool} {held : Bool} : ∀ (n : Nat) (t : TypeId) (fuel : Nat) (cs : List Value) (x : DataW H × List MemPlace), flatB P k n t = true → DataW.trod enc P w base sp held fuel t cs = some x →
    ∃ zs, cs = vi k zs ∧ WfI k zs ∧ zs.length = P.cellsOf t
  | 0, t, fuel, cs, x, h, _ => by cases h
  | n + 1, t, fuel, cs, x, h, hx => by
    unfold flatB at h
    split at h
    · rename_i k' hu
      simp only [Bool.and_eq_true, beq_iff_eq] at h
      obtain ⟨rfl, h1⟩ := h
      obtain ⟨z, rfl, _, hw⟩ := DataW.trod_int hu hx
      exact ⟨[z], rfl, fun y hy => by rw [List.mem_singleton.1 hy]; exact hw, by rw [Nat.eq_of_beq_eq_true h1]; rfl⟩
    · rename_i fs hu
      obtain ⟨xs, m, _, _, hl, hlen, hall⟩ := DataW.trod_struct hu hx
      obtain ⟨zs, e, hw⟩ := flat_fields (k := k) hl fs.toList 0 h fun f hf hq => by
        obtain ⟨i, hi, rfl⟩ := List.mem_iff_getElem.1 hf
        have hi' : i < fs.size := by simpa using hi
        have h2 := hall i fs.toList[i] (by rw [Array.getElem?_eq_getElem hi', Array.getElem_toList])
        rw [List.getElem?_eq_getElem (by rw [hlen]; exact hi')] at h2
        obtain ⟨zs, e, hw, _⟩ := flat_of_trod n _ _ _ _ hq h2
        exact ⟨zs, e, hw⟩
      rw [List.drop_zero] at e
      refine ⟨zs, e, hw, ?_⟩
      rw [← hl, e, vi_len]
    · cases h
theorem flats_of_trod {k : IntKind} {t e : TypeId} {n m : Nat} {a : Option Addr} {len cap : Nat} {d : DataW H} {p : List MemPlace} (ht : P.underlying t = some (.slice e)) (hf : flatB P k n e = true) (hm : P.cellsOf e = m) (h0 : 0 < m)
    (h : DataW.Trod enc P w 0 (fun _ => true) true t (.slice a len cap) d p) : len ≤ cap ∧ cap ≤ maxLen ∧ ∃ zs, Rd w a (vi k zs) ∧ zs.length = len * m ∧ WfI k zs := by
  obtain ⟨fuel, hx⟩ := h
  rcases DataW.trod_slice ht hx with ⟨hcs, _⟩ | ⟨a', len', cap', elems, rest, n', _, hcs, _, _, hl, hmx, hel, hat, _⟩
  · simp [Value.cells] at hcs
    obtain ⟨rfl, rfl, rfl⟩ := hcs
    exact ⟨Nat.le_refl _, Nat.zero_le _, [], (fun j u hu => by simp [vi] at hu), by simp, fun z hz => by cases hz⟩
  · simp [Value.cells] at hcs
    obtain ⟨rfl, rfl, rfl⟩ := hcs
    rw [hm] at hat
    have hone : ∀ i, i < len → ∃ zs, WfI k zs ∧ zs.length = m ∧ ∀ j, j < m → w.cell? (a'.add (i * m + j)) = (vi k zs)[j]? := fun i hi => by
      have h1 := hat i hi
      rw [List.getElem?_eq_getElem (by omega)] at h1
      obtain ⟨cs, hc, h2⟩ := Option.bind_eq_some_iff.1 h1
      obtain ⟨zs, e1, hw, hlz⟩ := flat_of_trod n e _ _ _ hf h2
      refine ⟨zs, hw, by rw [hlz, hm], fun j hj => ?_⟩
      have h3 := World.cells?_some hc
      have := h3.2.2 j hj
      rw [e1] at this
      rw [← this, add_add]
    have hall : ∀ i, i ≤ len → ∃ zs, WfI k zs ∧ zs.length = i * m ∧ ∀ j, j < i * m → w.cell? (a'.add j) = (vi k zs)[j]? := fun i => by
      induction i with
      | zero => exact fun _ => ⟨[], (fun z hz => by cases hz), by simp, fun j hj => by omega⟩
      | succ i ih =>
        intro hi
        obtain ⟨zs, hw, hl1, hc⟩ := ih (by omega)
        obtain ⟨ys, hw2, hl2, hc2⟩ := hone i (by omega)
        refine ⟨zs ++ ys, fun z hz => (List.mem_append.1 hz).elim (hw z) (hw2 z), by rw [List.length_append, hl1, hl2, Nat.succ_mul], fun j hj => ?_⟩
        rw [Nat.succ_mul] at hj
        by_cases hji : j < i * m
        · rw [hc j hji, vi_app, List.getElem?_append_left (by rw [vi_len, hl1]; exact hji)]
        · have := hc2 (j - i * m) (by omega)
          rw [show i * m + (j - i * m) = j by omega] at this
          rw [this, vi_app, List.getElem?_append_right (by rw [vi_len, hl1]; omega), vi_len, hl1]
    obtain ⟨zs, hw, hlz, hc⟩ := hall len (Nat.le_refl _)
    refine ⟨hl, hmx, zs, fun j u hu => ?_, hlz, hw⟩
    have hj : j < len * m := by
      have := (List.getElem?_eq_some_iff.1 hu).1
      rw [vi_len, hlz] at this; exact this
    have h1 := hc j hj
    rw [hu] at h1
    have hcell := hc 0 (by omega)
    rw [List.getElem?_eq_getElem (by rw [vi_len, hlz]; omega), show a'.add 0 = a' from by simp [Addr.add]] at hcell
    have hs : a'.spot = none := by
      unfold World.cell? at hcell
      split at hcell
      · split at hcell
        · cases hcell
        · rename_i h2; simpa using h2
      · cases hcell
    have ee : a' = ⟨a'.block, a'.off, none⟩ := by rw [← hs]
    have ea : a'.add j = ⟨a'.block, a'.off + j, none⟩ := by
      rw [ee]; exact add_at _ _ _
    rw [ea] at h1
    have hb : a'.block < w.heap.size := by
      have h2 := h1
      unfold World.cell? at h2
      split at h2
      · rename_i c T fr hb; exact heap_lt hb
      · cases h2
    exact ⟨a'.block, a'.off, congrArg some ee, hb, h1⟩
end
end Go.Proofs.YtgkkbeomhkggjaaDoor
