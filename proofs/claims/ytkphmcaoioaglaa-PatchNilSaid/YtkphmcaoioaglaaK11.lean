/- A loop of a number of rounds that is known: round by round. -/
import Derived.Test.YtkphmcaoioaglaaK10
import Derived.LoopN
set_option linter.unusedVariables false
set_option linter.unusedSimpArgs false
namespace Go.Proofs.Ytkphmcaoioaglaa
open Go Go.RowKit

/-- some of a block's cells -/
theorem lst_part {full : List Value} {a m j : Nat} {v : Value} (hv : ((full.drop a).take m)[j]? = some v) : full[a + j]? = some v := by
  rw [List.getElem?_take] at hv
  split at hv
  · rwa [List.getElem?_drop] at hv
  · cases hv
section
variable {P : Program} {n : Nat} {Q : Exit → Act → World → Prop} {L : Fr} {w : World} {c : Code}
theorem cw_loopR (k : Nat) (h : Cw P n (Exit.then (fun a w => Code.rounds P c Q k a w) Q) c L w) : Cw P n Q (.loop c) L w := fun a ha => wp_loop_rounds (k + 1) (h a ha)
theorem fn_roundR {k : Nat} (h : Cw P n (Exit.then (fun a w => Code.rounds P c Q k a w) Q) c L w) : Fin n (Exit.then (fun a w => Code.rounds P c Q (k + 1) a w) Q) .normal L w := fun a ha => h a ha
/-- make([]T, k, m) -/
theorem op_mkn {o : Oper} {t e : TypeId} {x y : Operand} {kk k' : IntKind} {k m size bytes : Nat} {q q' : Int} {zs : List Value} {w0 : World} {l : List Ob} (H : HS w0 w l) (ho : o.op = .makeSlice t x y) (hx : ev L x = some (.int kk q)) (hy : ev L y = some (.int k' q')) (hq : q = (k : Int)) (hq' : q' = (m : Int)) (hkm : k ≤ m)
    (ht : P.underlying t = some (.slice e)) (hz : (P.info? e).map (fun i => (i.zero.map (·.cells.toList), i.size, i.bytes)) = some (some zs, size, bytes)) (hb : bytes * m ≤ 281474976710656) (hm : m ≤ maxLen) :
    OpS P n L o w (fun u w' => ∃ b, u = .slice (some ⟨b, 0, none⟩) k m ∧ HS w0 w' (.row (some ⟨b, 0, none⟩) k m ((madeCells zs.toArray (m * size)).toList.take (k * size)) e size :: l)) := op_run fun a ha => by
  subst hq; subst hq'
  cases hi : P.info? e with
  | none => rw [hi] at hz; cases hz
  | some inf =>
    rw [hi] at hz
    simp only [Option.map_some, Option.some.injEq, Prod.mk.injEq] at hz
    obtain ⟨h1, h2, h3⟩ := hz
    cases hzz : inf.zero with
    | none => rw [hzz] at h1; cases h1
    | some z =>
      have hzc : z.cells = zs.toArray := by rw [hzz] at h1; simp only [Option.map_some, Option.some.injEq] at h1; rw [← h1]
      have h63' : (m : Int) ≤ 9223372036854775807 := by
        have h := hm
        simp [maxLen] at h
        omega
      have hb' : (inf.bytes : Int) * (m : Int) ≤ 281474976710656 := by
        rw [h3]
        have h : ((bytes * m : Nat) : Int) ≤ 281474976710656 := by omega
        rwa [Int.natCast_mul] at h
      have hr := run_make (P := P) w t e inf z ht hi hzz kk k' k m (by omega) (by omega) hb' h63'
      simp only [Int.toNat_natCast] at hr
      rw [hzc, h2] at hr
      have hsz : (madeCells zs.toArray (m * size)).size = m * size := size_madeCells _ _
      refine ⟨_, w.alloc (.cells (madeCells zs.toArray (m * size)) e), ?_, w.heap.size, rfl, ?_⟩
      · unfold execOp
        simp only [ho, ha.ev hx, ha.ev hy, Sem.run_bind, hr, Result.andThen_ok, Sem.run_pure]
      · have h4 := H.ext ((Below.refl _ _).alloc (Nat.le_refl _) (.cells (madeCells zs.toArray (m * size)) e))
        refine h4.cons (show Own _ _ _ _ _ _ _ _ from ⟨?_, hkm, hm, .inr ⟨w.heap.size, madeCells zs.toArray (m * size), rfl, H.base.size, heap_alloc_new w _, by rw [hsz]; exact Nat.le_refl _, rfl⟩⟩) fun o' ho' k hk hk' => ?_
        · rw [List.length_take, Array.length_toList, hsz]
          exact Nat.min_eq_left (Nat.mul_le_mul_right _ hkm)
        · simp only [Ob.has, Ob.block] at hk
          split at hk
          · cases hk
          · cases hk
            exact absurd (Ob.lt (H.own o' ho') _ hk').2 (Nat.lt_irrefl _)
end
end Go.Proofs.Ytkphmcaoioaglaa
