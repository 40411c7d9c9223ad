/- The law of 'out = append(out, x)' for one element, with what a loop carries along: the row is the call's own, what lay below stays. -/
import Derived.Test.YtkphmcaoioaglaaRegion
import Derived.OwnWalk
import Derived.Laws.Rows
import Derived.Deep.AppendLies
set_option linter.unusedVariables false
set_option linter.unusedSimpArgs false
namespace Go.Proofs.Ytkphmcaoioaglaa
open Go Go.RowKit

theorem wpList_push {P : Program} {ops : Array Oper} {rest : List Oper} {o : Oper} {a : Act} {Q : Exit → Act → World → Prop} {w0 : World} (hgd : o.guard = none) (s x : Operand) (t e : TypeId)
    (ho : o.op = .call { callee := .builtin .append, args := #[s, x], argTypes := #[t, t] }) (ht : P.underlying t = some (.slice e)) (z : Value) (size bytes : Nat)
    (hin : (P.info? e).map (fun i => (i.zero, i.size, i.bytes)) = some (some z, size, bytes)) (hzs : z.cells.size = size) (hsz : 0 < size)
    (v : Value) (n : Nat) (xs : List Value) (hs : a.eval s = v) (B : Nat) (hown : w0.ownsRow B e size v n xs) (E : World) (hE : Below B E w0) (hB : B ≤ w0.heap.size)
    (cs : Array Value) (c b : Nat) (hb : w0.heap.size = b) (hx : a.eval x = .slice (some ⟨b, 0, none⟩) 1 c) (hl : cs.size = size) (h1 : ∀ u ∈ cs.toList, u.oneCell' = true)
    (h63 : n + 1 ≤ maxLen) (hbytes : (n + 1) * bytes ≤ 140737488355328)
    (h : ∀ v' w', w'.ownsRow B e size v' (n + 1) (xs ++ cs.toList) → Below B E w' → B ≤ w'.heap.size → wpList P ops Q rest (a.put o.dst v') w') :
    wpList P ops Q (o :: rest) a (w0.alloc (.cells cs e)) := by
  subst hb
  obtain ⟨i, hi, hz, hz1, hz2⟩ := info_parts hin
  have hBa : B ≤ (w0.alloc (.cells cs e)).heap.size := by simp; omega
  refine wpList_append_own (w0.alloc (.cells cs e)) hgd s x t ho B e i z size bytes ht hi hz hz1 hz2 hzs hsz v n xs hs (hown.alloc _) ⟨w0.heap.size, 0, none⟩ 1 c cs.toList hx (by simpa using hl)
    (World.news_of_block (heap_alloc_new w0 _)) h1 h63 hbytes hBa ?_
  intro v' w' hown' hg _
  refine h v' w' hown' ((hE.alloc hB _).grown hg hBa fun k hk => ?_) (Nat.le_trans hBa hg.size)
  exact (hown.lt k hk).1
end Go.Proofs.Ytkphmcaoioaglaa
