/- Small words for the ends of walks; the rectangle of numbers. -/
import Derived.Test.YtkphmcaoioaglaaRows
import Derived.Test.YtkphmcaoioaglaaRegion
import Derived.WalkKit
import Derived.WalkSpells
import Derived.WalkLawsBesides
import Derived.BigQuiet
set_option linter.unusedVariables false
set_option linter.unusedSimpArgs false
namespace Go.Proofs.Ytkphmcaoioaglaa
open Go.RowKit

theorem ret_int {k : IntKind} {a b : Int} (h : a = b) : Ending.returned (.int k a) = .returned (.int k b) := by rw [h]
theorem ret_bool {a b : Bool} (h : a = b) : Ending.returned (.bool a) = .returned (.bool b) := by rw [h]
theorem ret_eq {a b : Value} (h : a = b) : Ending.returned a = .returned b := by rw [h]
theorem below_alloc {w w1 : World} (h : Below w.heap.size w w1) (o : Obj) : Below w.heap.size w (w1.alloc o) := h.alloc h.size o
theorem below_draw {w w1 : World} (h : Below w.heap.size w w1) : Below w.heap.size w w1.drew := h.drew
theorem bset {w w1 : World} {p : Addr} (hp : w.heap.size ≤ p.block) (u : Value) (h : Below w.heap.size w w1) : Below w.heap.size w (w1.setCell p u) := h.setCell hp u
theorem bcall {w w1 w2 : World} {n : Nat} (hb : Below n w1 w2) (hn : w1.heap.size ≤ n) (h : Below w.heap.size w w1) : Below w.heap.size w w2 := h.trans (hb.mono (Nat.le_trans h.size hn))
theorem below_set {w w1 : World} (h : Below w.heap.size w w1) {p : Addr} (hp : w.heap.size ≤ p.block) (u : Value) : Below w.heap.size w (w1.setCell p u) := h.setCell hp u
theorem below_call {w w1 w2 : World} {n : Nat} (h : Below w.heap.size w w1) (hb : Below n w1 w2) (hn : w1.heap.size ≤ n) : Below w.heap.size w w2 :=
  h.trans (hb.mono (Nat.le_trans h.size hn))

theorem below_own {n : Nat} {a b : World} (h : Below a.heap.size a b) (e : n ≤ a.heap.size) : Below n a b := h.mono e
end Go.Proofs.Ytkphmcaoioaglaa
