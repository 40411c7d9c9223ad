/- The number at a place of a list, behind a name of its own. -/
import Derived.Test.YtkphmcaoioaglaaRegion
set_option linter.unusedVariables false
set_option linter.unusedSimpArgs false
namespace Go.Proofs.Ytkphmcaoioaglaa
def nth (zs : List Int) (j : Nat) : Int := zs.getD j 0
theorem nth_lt {zs : List Int} {j : Nat} (h : j < zs.length) : nth zs j = zs[j] := by simp [nth, List.getD, h]
theorem nth_get? {zs : List Int} {j : Nat} (h : j < zs.length) : zs[j]? = some (nth zs j) := by rw [nth_lt h, List.getElem?_eq_getElem h]
theorem nth_take {zs : List Int} {j k : Nat} (h : j < k) : nth (zs.take k) j = nth zs j := by simp [nth, List.getD, List.getElem?_take, h]
theorem nth_app_lt {a b : List Int} {j : Nat} (h : j < a.length) : nth (a ++ b) j = nth a j := by simp [nth, List.getD, List.getElem?_append_left h]
theorem nth_app_eq {a : List Int} {v : Int} : nth (a ++ [v]) a.length = v := by simp [nth, List.getD]
theorem nth_ext {a b : List Int} (hl : a.length = b.length) (h : ∀ j, j < a.length → nth a j = nth b j) : a = b := by
  apply List.ext_getElem hl
  intro j h1 h2
  rw [← nth_lt h1, ← nth_lt h2]; exact h j h1
theorem take_succ_nth {zs : List Int} {k : Nat} (h : k < zs.length) : zs.take (k + 1) = zs.take k ++ [nth zs k] := by
  rw [List.take_add_one, nth_get? h]; rfl
theorem nth_mem {zs : List Int} {j : Nat} (h : j < zs.length) : nth zs j ∈ zs := by rw [nth_lt h]; exact List.getElem_mem h
theorem nth_set_eq {zs : List Int} {k : Nat} {v : Int} (h : k < zs.length) : nth (zs.set k v) k = v := by simp [nth, List.getD, h]
theorem nth_set_ne {zs : List Int} {k j : Nat} {v : Int} (h : k ≠ j) : nth (zs.set k v) j = nth zs j := by simp [nth, List.getD, List.getElem?_set_ne h]
end Go.Proofs.Ytkphmcaoioaglaa
