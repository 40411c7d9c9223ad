/- Texts as one: K16, K17. -/
import Derived.Test.YtbnjbgcadkdljaaGreatDoorMC
import Derived.Lib.BufferMore
set_option linter.unusedVariables false
set_option linter.unusedSimpArgs false
namespace Go.Proofs.YtbnjbgcadkdljaaGreatDoor
open Go Go.RowKit
theorem zeroCells_one {z : Array Value} {z0 : Value} (h : z.toList = [z0]) (m : Nat) : (Builtin.zeroCells z m) = (List.replicate m z0).toArray := by
  have hz : z = #[z0] := Array.ext' (by simpa using h)
  subst hz
  apply Array.ext'
  simp only [Builtin.zeroCells, List.size_toArray, List.length_singleton, Nat.mul_one, Nat.mod_one, Array.toList_map, Array.toList_range]
  apply List.ext_getElem (by simp)
  intro i h1 h2
  simp
section
variable {P : Program} {n : Nat} {L : Fr} {o : Oper} {w : World}
theorem op_appz {t tn e : TypeId} {kn kq : IntKind} {x y : Operand} {i k cap bytes : Nat} (m : Nat) {q : Int} {A : Option Addr} {xs : List Value} {z0 : Value} {w0 : World} {l : List Ob} (H : HS w0 w l) (ho : o.op = .call { callee := .builtin .append, args := #[x, y], argTypes := #[t, tn] })
    (hx : ev L x = some (.slice A k cap)) (hy : ev L y = some (.int kq q)) (hq : q = (m : Int)) (hm0 : 0 < m) (hi : l[i]? = some (.row A k cap xs e 1)) (h1 : z0.oneCell' = true)
    (ht : P.underlying t = some (.slice e)) (htn : P.underlying tn = some (.int kn)) (hz : (P.info? e).map (fun i => (i.zero.map (·.cells.toList), i.size, i.bytes)) = some (some [z0], 1, bytes)) (h63 : k + m ≤ maxLen) (hb : (k + m) * bytes ≤ 140737488355328) :
    OpS P n L o w (fun u w' => ∃ A2 cap2, u = .slice A2 (k + m) cap2 ∧ HS w0 w' (l.set i (.row A2 (k + m) cap2 (xs ++ List.replicate m z0) e 1))) := op_run fun a ha => by
  subst hq
  cases hi' : P.info? e with
  | none => rw [hi'] at hz; cases hz
  | some inf =>
  rw [hi'] at hz
  simp only [Option.map_some, Option.some.injEq, Prod.mk.injEq] at hz
  obtain ⟨hz1, hs1, rfl⟩ := hz
  cases hzz : inf.zero with
  | none => rw [hzz] at hz1; cases hz1
  | some z =>
  rw [hzz] at hz1
  simp only [Option.map_some, Option.some.injEq] at hz1
  have hzc := zeroCells_one hz1
  have hO : Own _ _ _ _ _ _ _ _ := H.at_ hi
  have hm63 : k + m ≤ 9223372036854775807 := by unfold maxLen at h63; omega
  have hw : IntKind.i64.wrap (m : Int) = m := by rw [IntKind.wrap_i64]; omega
  have hm48 : ¬ (281474976710656 < (m : Int) * (inf.bytes : Int)) := by
    rw [← Int.natCast_mul]
    have : m * inf.bytes ≤ (k + m) * inf.bytes := Nat.mul_le_mul_right _ (by omega)
    omega
  have hneg : ¬ ((m : Int) < 0) := by omega
  have hns : ¬ (m = 0) := by omega
  have fin : ∀ v w', (Builtin.append_ #[t, tn] o.type #[.slice A k cap, .int kq m]).run P w = .ok v w' → (execOp a.eval o).run P w = .ok (.value v) w' := fun v w' h => by
    unfold execOp
    simp only [ho, resolve, invoke, builtin, Sem.run_bind, Sem.run_pure, Result.andThen_ok, List.map_toArray, List.map_cons, List.map_nil, ha.ev hx, ha.ev hy, h]
  have hall : ∀ u ∈ List.replicate m z0, u.oneCell' = true := fun u hu => by rw [(List.mem_replicate.1 hu).2]; exact h1
  have hlen : (xs ++ List.replicate m z0).length = (k + m) * 1 := by rw [List.length_append, hO.1, List.length_replicate, Nat.add_mul, Nat.mul_one m]
  by_cases hroom : k + m ≤ cap
  · obtain ⟨a1, a2, a3, a4 | ⟨g, cur, hA, hB, hh, hs, htk⟩⟩ := hO
    · omega
    · subst hA
      have hfit : k * 1 + 0 + (List.replicate m z0).length ≤ cur.size := by rw [List.length_replicate]; omega
      have hst := run_storeCells_at P g (k * 1) e (List.replicate m z0) 0 cur w hh hfit hall
      simp only [Nat.add_zero, Nat.mul_one] at hst
      have hrun : (Builtin.append_ #[t, tn] o.type #[.slice (some ⟨g, 0, none⟩) k cap, .int kq m]).run P w = .ok (.slice (some ⟨g, 0, none⟩) (k + m) cap) (w.setRow g (cur.toList.take k ++ List.replicate m z0 ++ cur.toList.drop (k + (List.replicate m z0).length)).toArray) := by
        simp [Builtin.append_, run_underlying ht, run_underlying htn, sizeOf, typeInfo, zeroValue, hi', hzz, hs1, asInt, asIntOf, hw, hneg, hns, hm48, hroom, hzc, Addr.add_lit, hst]
      refine ⟨_, _, fin _ _ hrun, _, cap, rfl, H.wrote hi (w' := w.setRow g _) ?_ (show Own _ _ _ _ _ _ _ _ from ⟨hlen, hroom, a3, .inr ⟨g, _, rfl, hB, setRow_heap w g cur _ e _ hh, ?_, ?_⟩⟩) (fun _ h => .inl h)⟩
      · refine ⟨rfl, rfl, rfl, by simp, fun j _ hj => setRow_other w g j _ (fun e => hj ?_)⟩
        subst e
        simp only [Ob.has, Ob.block]
        rw [if_neg (by omega)]; rfl
      · simp only [List.size_toArray, List.length_append, List.length_take, List.length_drop, Array.length_toList, List.length_replicate]
        omega
      · rw [Nat.mul_one] at htk
        rw [htk, ← hlen]
        exact List.take_left
  · have hge := grownCap_ge w (k + m) cap e
    have hcm := grownCap_le_maxLen w (k + m) cap e h63
    have hg : cap < k + m := by omega
    have hfit := growslice_fits (bytes := inf.bytes) hg hb
    have h63' : ¬ (9223372036854775807 < ((k : Int) + (m : Int))) := by omega
    have h48' : ¬ (281474976710656 < Builtin.nextslicecap (k + m) cap * inf.bytes) := by omega
    have hO2 := hO
    obtain ⟨a1, a2, a3, a4⟩ := hO
    have hfo : (Builtin.firstCells 1 k (.slice A k cap)).run P w.drew = .ok xs.toArray w.drew := by
      cases A with
      | none =>
        have hk : k = 0 := by
          rcases a4 with h | ⟨g, cur, hA, _⟩
          · omega
          · cases hA
        have : xs = [] := List.length_eq_zero_iff.1 (by rw [a1, hk])
        subst this
        simp [Builtin.firstCells]
      | some ad =>
        refine run_firstCells_some (P := P) w.drew 1 k ad k cap xs a1 (fun j u hu => ?_)
        obtain ⟨b, off, e1, _, hc⟩ := (Own.rd hO2) j u hu
        cases e1
        rw [add_at]
        simpa using hc
    have hrun : (Builtin.append_ #[t, tn] o.type #[.slice A k cap, .int kq m]).run P w = .ok (.slice (some ⟨w.heap.size, 0, none⟩) (k + m) (grownCap w (k + m) cap e)) (w.drew.alloc (.cells (xs.toArray ++ (List.replicate m z0).toArray ++ (List.replicate (grownCap w (k + m) cap e - (k + m)) z0).toArray) e)) := by
      simp [Builtin.append_, run_underlying ht, run_underlying htn, sizeOf, typeInfo, zeroValue, hi', hzz, hs1, asInt, asIntOf, hw, hneg, hns, hm48, hroom, hzc, h63', h48', hfo, Question.forced, newRow, grownCap]
    refine ⟨_, _, fin _ _ hrun, _, _, rfl, H.wrote hi (grown_below (((Below.refl _ _).drew).alloc (Nat.le_refl _) _) _) (show Own _ _ _ _ _ _ _ _ from ⟨hlen, hge, hcm, .inr ⟨w.heap.size, _, rfl, H.base.size, heap_alloc_new w.drew _, ?_, ?_⟩⟩) fun k' hk' => .inr ?_⟩
    · simp only [Array.size_append, List.size_toArray, List.length_replicate, a1]; omega
    · simp only [Array.toList_append]
      rw [← hlen]
      have : xs.toArray.toList ++ (List.replicate m z0).toArray.toList = xs ++ List.replicate m z0 := by simp
      rw [this]
      exact List.take_left
    · simp only [Ob.has, Ob.block] at hk'
      split at hk'
      · cases hk'
      · cases hk'; exact Nat.le_refl _
end
end Go.Proofs.YtbnjbgcadkdljaaGreatDoor

namespace Go.Proofs.YtbnjbgcadkdljaaGreatDoor
open Go Go.RowKit
section
variable {P : Program} {n : Nat} {L : Fr} {o : Oper} {w : World}
theorem okB_byt {l : List Int} : (∀ z ∈ l, 0 ≤ z ∧ z ≤ 255) ↔ Byt l := ⟨fun h z hz => by have := h z hz; omega, fun h z hz => by have := h z hz; omega⟩
end
end Go.Proofs.YtbnjbgcadkdljaaGreatDoor
