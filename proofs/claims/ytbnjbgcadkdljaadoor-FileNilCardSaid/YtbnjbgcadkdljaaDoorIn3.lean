/- A function that holds a range over a function: its beginning and its end. -/
import Derived.Test.YtbnjbgcadkdljaaDoorIn2
import Derived.RangeFuncNested
import Derived.RangeFuncLeaves
set_option linter.unusedVariables false
set_option linter.unusedSimpArgs false
namespace Go.Proofs.YtbnjbgcadkdljaaDoor
open Go Go.RowKit
section
variable {P : Program} {n : Nat} {L : Fr} {w : World}
theorem ini_rep {fn : Func} {args : List Value} (hn : fn.ntmps = n) (hle : Nat.ble args.length n = true) : Rep n (ini 0 args) { tmps := args.toArray ++ Array.replicate (fn.ntmps - args.toArray.size) undef, defers := [] } := by
  subst hn
  have hle' : args.length ≤ fn.ntmps := Nat.le_of_ble_eq_true hle
  refine ⟨by simp; omega, rfl, fun t v e => ?_⟩
  obtain ⟨_, h2⟩ := ini_lk args 0 t v e
  rw [Nat.sub_zero] at h2
  have : t < args.length := by
    rcases Nat.lt_or_ge t args.length with h | h
    · exact h
    · rw [List.getElem?_eq_none h] at h2; cases h2
  rw [Array.getElem?_append_left (by simpa using this)]
  simpa using h2
theorem ret_enterM {f : FuncId} {fn : Func} {c : Code} {args : List Value} {R : Value → World → Prop} (hf : P.funcs[f]? = some fn) (hb : fn.body = some c) (hn : fn.ntmps = n) (hle : Nat.ble args.length n = true)
    (h : Cw P n (bodyPostM Fence.wide 3 P fn (fun e w' => ∃ v, e = .returned v ∧ R v w')) c (ini 0 args) w) : Ret P f args w R :=
  callsIn_wide.1 (callsIn_of_wp_marks (n := 3) (F := Fence.wide) hf hb trivial (wpIn_wide.2 (h _ (ini_rep hn hle))))
theorem mark_ret {fn : Func} {R : Value → World → Prop} {a : Act} {D : Nat} {t : Tmp} {v : Value} (ha : Rep n L a) (hr : fn.results = #[.tmp t]) (hv : lk L t = some v) (hD : w.heap[D]? = some (.deferred (some []))) (h : R v (w.putObj D (.deferred none))) :
    bodyPostM Fence.wide 3 P fn (fun e w' => ∃ v, e = .returned v ∧ R v w') .ret { a with defers := [{ target := .collected D, args := #[] }] } w := by
  refine ⟨by simp, .inl ⟨D, _, rfl, run_takeDeferred hD, ?_⟩⟩
  refine ⟨v, ?_, v, rfl, h⟩
  have := res_all (P := P) (w := w.putObj D (.deferred none)) (fn := fn) (vs := [v]) ha (by rw [hr]; exact ⟨hv, trivial⟩)
  simpa using this
end
end Go.Proofs.YtbnjbgcadkdljaaDoor
