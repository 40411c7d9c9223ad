/- What the card lists: the two tables of package utf8; the rune with which a text begins, as the library finds it. -/
import Derived.Test.YtgkkbeomhkggjaaDoorRows
import Derived.Test.YtgkkbeomhkggjaaDoorK19
import Derived.Shelf.Unicode.DecodeAny
import Derived.Lib.LaidU8T
import Derived.PinnedBridge
import Derived.ProofKit
import Derived.LaidMore
import Derived.Stop.Joined
import Derived.MakeChecks
set_option linter.unusedVariables false
set_option linter.unusedSimpArgs false
namespace Go.Proofs.YtgkkbeomhkggjaaDoor
open Go Go.Shelf Go.RowKit
abbrev laidv : List (String × DataW Unit) := Rows.chartMarksRow.laid
def decRen : Ren where
  f := fun x => match x with | 197 => 44 | 260 => 75 | n => n
  t := fun x => match x with | 9 => 9 | 21 => 21 | 3 => 3 | 4 => 4 | 5 => 5 | 105 => 97 | 119 => 170 | 0 => 0 | 46 => 171 | 139 => 174 | 138 => 173 | n => n
  g := fun x => match x with | 3 => 1 | 4 => 2 | n => n
theorem decLays : Lays.n197 Tryd.prog decRen where
  mixed := by kernel_rfl
  f197 := by kernel_rfl
  f260 := by kernel_rfl
  t0 := by kernel_rfl
  a0 := Tryd.isAgg0
  z0 := Tryd.sizeOf0
  v0 := Tryd.zeroValue0
  t3 := by kernel_rfl
  a3 := Tryd.isAgg3
  z3 := Tryd.sizeOf3
  v3 := Tryd.zeroValue3
  t4 := by kernel_rfl
  a4 := Tryd.isAgg4
  z4 := Tryd.sizeOf4
  v4 := Tryd.zeroValue4
  t5 := by kernel_rfl
  a5 := Tryd.isAgg5
  z5 := Tryd.sizeOf5
  v5 := Tryd.zeroValue5
  t9 := by kernel_rfl
  a9 := Tryd.isAgg9
  z9 := Tryd.sizeOf9
  v9 := Tryd.zeroValue9
  t21 := by kernel_rfl
  a21 := Tryd.isAgg21
  z21 := Tryd.sizeOf21
  v21 := Tryd.zeroValue21
  t46 := by kernel_rfl
  a46 := Tryd.isAgg171
  z46 := Tryd.sizeOf171
  v46 := Tryd.zeroValue171
  t105 := by kernel_rfl
  a105 := Tryd.isAgg97
  z105 := Tryd.sizeOf97
  v105 := Tryd.zeroValue97
  t119 := by kernel_rfl
  a119 := Tryd.isAgg170
  z119 := Tryd.sizeOf170
  t138 := by kernel_rfl
  a138 := Tryd.isAgg173
  z138 := Tryd.sizeOf173
  v138 := Tryd.zeroValue173
  t139 := by kernel_rfl
  a139 := Tryd.isAgg174
  z139 := Tryd.sizeOf174
  v139 := Tryd.zeroValue174
  g3 := by kernel_rfl
  g4 := by kernel_rfl
abbrev Tabs (w : World) : Prop := Lib.Utf8Tabs 1 2 w
theorem of_laid {W : World} (h : laidMetH Tryd.prog laidv W) : Tabs W := by
  rw [MakeChecks.laidMetH_plain _ _ _ (by kernel_rfl)] at h
  have h3 : Lib.VarReads Tryd.prog W "unicode/utf8.first" Lib.firstData := by
    have := Lib.laidMet.reads (n := "unicode/utf8.first") (d := Pinned.utf8First) h (.tail _ (.head _))
    rwa [Pinned.utf8First_eq] at this
  have h4 : Lib.VarReads Tryd.prog W "unicode/utf8.acceptRanges" Lib.acceptData := Lib.laidMet.reads h (.head _)
  exact utf8Tabs_of_readsT (ρ := decRen) (U8Types.mk (by kernel_rfl) (by kernel_rfl) (by kernel_rfl) (by kernel_rfl)) ⟨by kernel_rfl, by kernel_rfl, by kernel_rfl, by kernel_rfl, by kernel_rfl, by kernel_rfl, by kernel_rfl⟩ h3 h4
theorem Tabs.below {w w' : World} (h : Tabs w) (hg : 2 < w.heap.size) (hb : Below w.heap.size w w') : Tabs w' := by
  have hk : ∀ b c, b < w.heap.size → w'.cell? ⟨b, c, none⟩ = w.cell? ⟨b, c, none⟩ := fun b c hlt => hb.cell (p := ⟨b, c, none⟩) hlt
  exact ⟨fun c hc => (hk _ _ (by show (1 : Nat) < _; omega)).trans (h.1 c hc), fun i hi => ⟨(hk _ _ (by show (2 : Nat) < _; omega)).trans (h.2 i hi).1, (hk _ _ (by show (2 : Nat) < _; omega)).trans (h.2 i hi).2⟩⟩
theorem Tabs.size {w : World} (h : Tabs w) : 2 < w.heap.size := by
  have h1 := (h.2 0 (by omega)).1
  rcases Nat.lt_or_ge 2 w.heap.size with q | q
  · exact q
  · exfalso
    have h2 : w.heap[2]? = none := Array.getElem?_eq_none q
    unfold World.cell? at h1
    rw [show (⟨2, 2 * 0, none⟩ : Addr).block = 2 from rfl, h2] at h1
    cases h1
theorem decodeStr (l : List Int) (w : World) (hT : Tabs w) (hB : Byt l) (h0 : 0 < l.length) : Ret Tryd.prog 44 [.string (bs l)] w (fun v w' => v = .tuple #[.int .i32 (runeD l).1, .int .i64 ((runeD l).2 : Int)] ∧ Below w.heap.size w w') := by
  have h1 := Any.utf8_DecodeRuneInString decLays (bs l) w hT
  obtain ⟨e1, e2⟩ := decode_eq hB h0
  rw [List.drop_zero] at e1 e2
  unfold Lib.decodeGo at h1
  rw [if_neg (by rw [bs_size]; omega), e1, e2] at h1
  exact ret_elder h1
end Go.Proofs.YtgkkbeomhkggjaaDoor
