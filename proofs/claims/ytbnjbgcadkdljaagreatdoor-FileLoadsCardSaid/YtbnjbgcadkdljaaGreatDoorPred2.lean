/- Layer 4's contracts in the new form. -/
import Derived.Test.YtbnjbgcadkdljaaGreatDoorMR
import Derived.Test.YtbnjbgcadkdljaaGreatDoorMS
import Derived.Test.YtbnjbgcadkdljaaGreatDoorMU
set_option linter.unusedVariables false
set_option linter.unusedSimpArgs false
namespace Go.Proofs.YtbnjbgcadkdljaaGreatDoor
open Go Go.RowKit
theorem ints_of_rd {k : IntKind} {w : World} {A : Option Addr} {n : Nat} {zs : List Int} (h : Rd w A (vi k zs)) (hl : zs.length = n) : Ints k w A n zs := by
  refine ⟨hl, fun hn => ?_⟩
  obtain ⟨b, off, e, hlt, _⟩ := h 0 (.int k (nth zs 0)) (vi_get (by omega))
  refine ⟨b, off, e, hlt, fun j hj => ?_⟩
  obtain ⟨b', off', e', _, hc⟩ := h j (.int k (nth zs j)) (vi_get (by omega))
  rw [e] at e'
  cases e'
  exact hc
theorem hs_of_own4 {w w' : World} {v : Value} {n : Nat} {zs : List Int} (h : w'.ownsRow w.heap.size 2 1 v n (zs.map (Value.int .i64))) (hb : Below w.heap.size w w') : ∃ A c, v = .slice A zs.length c ∧ HS w w' [.row A zs.length c (vi .i64 zs) 2 1] := by
  have hl : zs.length = n := by have := h.1; simpa using this
  subst hl
  obtain ⟨A, c, rfl, _, _⟩ := own_form h
  exact ⟨A, c, rfl, hb, fun o ho => by rw [List.mem_singleton.1 ho]; exact own_of h, List.pairwise_singleton _ _⟩
theorem nilRow {w w' : World} (hb : Below w.heap.size w w') : HS w w' [.row none 0 0 (vi .i64 []) 2 1] := (HS.nilrow ⟨hb, (fun o h => by cases h), List.Pairwise.nil⟩ _ _)
def prQ (kind : Int) (zs : List Int) (width : Int) (rs : List Int) (e : Int) : Prop :=
  (¬ right4 kind width zs.length ∧ rs = [] ∧ e = 11) ∨ (right4 kind width zs.length ∧ ¬ AllMay zs zs.length ∧ rs = [] ∧ e = 7) ∨ (right4 kind width zs.length ∧ AllMay zs zs.length ∧ rs = restsL kind zs width zs.length ∧ e = 0)
def pcQ (kind : Int) (zs : List Int) (width : Int) (cs : List Int) (e : Int) : Prop :=
  (¬ right4 kind width zs.length ∧ cs = [] ∧ e = 11) ∨ (right4 kind width zs.length ∧ cellsN kind width zs zs.length = none ∧ cs = [] ∧ e = 7) ∨ (right4 kind width zs.length ∧ cellsN kind width zs zs.length = some cs ∧ e = 0)
section
variable (kind width : Int) (zs : List Int) (A : Option Addr) (n c : Nat) (w : World)
abbrev PrR (kind width : Int) (zs : List Int) (w : World) : Value → World → Prop := fun v w' => ∃ A' c' rs e, v = .tuple #[.slice A' rs.length c', .int .i64 e] ∧ prQ kind zs width rs e ∧ HS w w' [.row A' rs.length c' (vi .i64 rs) 2 1]
abbrev PcR (kind width : Int) (zs : List Int) (w : World) : Value → World → Prop := fun v w' => ∃ A' c' cs e, v = .tuple #[.slice A' cs.length c', .int .i64 e] ∧ pcQ kind zs width cs e ∧ HS w w' [.row A' cs.length c' (vi .i64 cs) 2 1]
theorem predRests (h : Rd w A (vi .i64 zs)) (hl : zs.length = n) (hc : n ≤ c) (hn : n ≤ 1000000) : Ret Tryz.prog 73 [.int .i64 kind, .slice A n c, .int .i64 width] w (PrR kind width zs w) := by
  subst hl
  by_cases hr : right4 kind width zs.length
  · by_cases hm : AllMay zs zs.length
    · refine Calls.mono (Rests_ok kind zs A _ c width w hr (ints_of_rd h rfl) hn hc (Lib.hid hm)) ?_
      rintro e w' ⟨v, rfl, ho, hb⟩
      obtain ⟨A', c', rfl, H⟩ := hs_of_own4 ho hb
      exact ⟨_, rfl, A', c', _, 0, rfl, .inr (.inr ⟨hr, hm, rfl, rfl⟩), H⟩
    · refine Calls.mono (Rests_val kind zs A _ c width w hr (ints_of_rd h rfl) hn hc (Lib.hid hm)) ?_
      rintro e w' ⟨rfl, hb⟩
      exact ⟨_, rfl, none, 0, [], 7, rfl, .inr (.inl ⟨hr, hm, rfl, rfl⟩), nilRow hb⟩
  · refine Calls.mono (Rests_no w kind zs A _ c width hr) ?_
    rintro e w' ⟨rfl, hb⟩
    exact ⟨_, rfl, none, 0, [], 11, rfl, .inl ⟨hr, rfl, rfl⟩, nilRow hb⟩
theorem predCells (h : Rd w A (vi .i64 zs)) (hl : zs.length = n) (hc : n ≤ c) (hn : n ≤ 1000000) : Ret Tryz.prog 61 [.int .i64 kind, .slice A n c, .int .i64 width] w (PcR kind width zs w) := by
  subst hl
  by_cases hr : right4 kind width zs.length
  · cases hm : cellsN kind width zs zs.length with
    | some out =>
      refine Calls.mono (Cells_ok kind zs A _ c width out w hr (ints_of_rd h rfl) hn hc (Lib.hid hm)) ?_
      rintro e w' ⟨v, rfl, ho, hb⟩
      obtain ⟨A', c', rfl, H⟩ := hs_of_own4 ho hb
      exact ⟨_, rfl, A', c', _, 0, rfl, .inr (.inr ⟨hr, hm, rfl⟩), H⟩
    | none =>
      refine Calls.mono (Cells_val kind zs A _ c width w hr (ints_of_rd h rfl) hn hc (Lib.hid hm)) ?_
      rintro e w' ⟨rfl, hb⟩
      exact ⟨_, rfl, none, 0, [], 7, rfl, .inr (.inl ⟨hr, hm, rfl, rfl⟩), nilRow hb⟩
  · refine Calls.mono (Cells_no w kind zs A _ c width hr) ?_
    rintro e w' ⟨rfl, hb⟩
    exact ⟨_, rfl, none, 0, [], 11, rfl, .inl ⟨hr, rfl, rfl⟩, nilRow hb⟩
theorem refCells (h : Rd w A (vi .i64 zs)) (hl : zs.length = n) (hn : n ≤ 1000000) : Ret Tryz.prog 47 [.int .i64 kind, .slice A n c, .int .i64 width] w (PcR kind width zs w) := by
  subst hl
  by_cases hr : right4 kind width zs.length
  · cases hm : cellsN kind width zs zs.length with
    | some out =>
      refine Calls.mono (refCells_ok kind zs A _ c width out w hr (ints_of_rd h rfl) hn (Lib.hid hm)) ?_
      rintro e w' ⟨v, rfl, ho, hb⟩
      obtain ⟨A', c', rfl, H⟩ := hs_of_own4 ho hb
      exact ⟨_, rfl, A', c', _, 0, rfl, .inr (.inr ⟨hr, hm, rfl⟩), H⟩
    | none =>
      refine Calls.mono (refCells_val kind zs A _ c width w hr (ints_of_rd h rfl) hn (Lib.hid hm)) ?_
      rintro e w' ⟨rfl, hb⟩
      exact ⟨_, rfl, none, 0, [], 7, rfl, .inr (.inl ⟨hr, hm, rfl, rfl⟩), nilRow hb⟩
  · refine Calls.mono (refCells_no w kind zs A _ c width hr) ?_
    rintro e w' ⟨rfl, hb⟩
    exact ⟨_, rfl, none, 0, [], 11, rfl, .inl ⟨hr, rfl, rfl⟩, nilRow hb⟩
theorem predRight (m : Int) : Ret Tryz.prog 30 [.int .i64 kind, .int .i64 width, .int .i64 m] w (fun v w' => v = .bool (decide (right4 kind width m)) ∧ Below w.heap.size w w') := by
  refine Calls.mono (right4_any kind width m w) ?_
  rintro e w' ⟨rfl, rfl⟩
  exact ⟨_, rfl, rfl, Below.refl _ _⟩
end
theorem rest_far {kind width : Int} {zs : List Int} {n k : Nat} (hw : 1 ≤ width) (hm : AllMay zs n) (hk : k < n) : -4294967295 ≤ nth (restsL kind zs width n) k ∧ nth (restsL kind zs width n) k ≤ 4294967295 := by
  have hg := guess_bd hm (kind := kind) (width := width) (i := (k : Int)) hw (by omega) (by omega)
  have hv := (mayB_iff _).1 (hm k hk)
  rw [restsL_get hk]
  omega
theorem rests_allI {kind width : Int} {zs : List Int} {n : Nat} (hw : 1 ≤ width) (hm : AllMay zs n) : allI (restsL kind zs width n) := fun z hz => by
  obtain ⟨j, hj, rfl⟩ := List.mem_iff_getElem.1 hz
  rw [restsL_len] at hj
  have := rest_far (kind := kind) hw hm hj
  rw [← nth_lt (by rw [restsL_len]; exact hj)]
  omega
end Go.Proofs.YtbnjbgcadkdljaaGreatDoor
