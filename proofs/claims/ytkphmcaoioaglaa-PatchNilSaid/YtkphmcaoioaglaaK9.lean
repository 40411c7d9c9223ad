/- copy; elements of a slice of a slice of the call's own. -/
import Derived.Test.YtkphmcaoioaglaaK8
import Derived.Laws.CopyRow
set_option linter.unusedVariables false
set_option linter.unusedSimpArgs false
namespace Go.Proofs.Ytkphmcaoioaglaa
open Go Go.RowKit

section
variable {P : Program} {n : Nat} {L : Fr} {o : Oper} {w : World}
/-- the value in other words -/
theorem yv {u v : Value} (he : u = v) (h : Yd P n L o u w) : Yd P n L o v w := he ▸ h
theorem pt_sub {A : Option Addr} {cap lo size k : Nat} (h : lo < cap) : pt (subA A cap lo size) k = pt A (lo * size + k) := by
  unfold pt subA
  rw [if_neg (by omega)]
  cases A with
  | none => rfl
  | some a =>
    simp only [Option.map_some]
    unfold Addr.add
    split <;> split <;> simp_all [Nat.add_assoc]
theorem y_nilcki {x : Operand} {t : TypeId} {v : Value} (ho : o.op = .nilCheck x) (hx : ev L x = some (.iface t v)) : Yd P n L o (.iface t v) w := fun a ha => by
  unfold execOp; simp only [ho, ha.ev hx, Sem.run_pure]
theorem qy_inv {R : World → Prop} {f : FuncId} {x : Operand} {xs : List Operand} {ts : Array TypeId} {vs : List Value} {t : TypeId} {v u : Value} {name : String} (hc : ∀ Y, R Y → Ret P f (v :: vs) Y (fun u' w' => u' = u ∧ Below Y.heap.size Y w')) (ho : o.op = .call { callee := .invoke x name, args := xs.toArray, argTypes := ts }) (hm : methB P t name f = true) (hp : notPtrB P t = true) (hf : callB P f = true) (hx : ev L x = some (.iface t v)) (hv : evl L xs vs) : QY P n L R o u := fun a ha Y hY => by
  have : (execOp a.eval o).run P Y = .ok (.enter f (v :: vs).toArray) Y := by
    unfold callB at hf
    split at hf
    · rename_i fn hfn
      simp only [Bool.and_eq_true, Bool.not_eq_true', beq_eq_false_iff_ne, ne_eq] at hf
      obtain ⟨h1, h2⟩ := hf
      have h3 : ¬ fn.body = none := by cases hb : fn.body <;> simp_all
      obtain ⟨k, hk⟩ : ∃ k, P.types.size + Made.depth = k + 1 := ⟨P.types.size + Made.depth - 1, by
        have h : 0 < Made.depth := by decide
        omega⟩
      unfold execOp
      simp [ho, resolve, evl_map ha hv, ha.ev hx, invoke, callMethod, hk, run_method hm hp k, callFunc, hfn, h1, h3]
    · cases hf
  unfold Oper.quietAt
  rw [this]
  refine ⟨rfl, Calls.mono (hc Y hY) fun e w' ⟨u', he, hu, hb⟩ => ?_⟩
  subst hu
  exact ⟨he, hb⟩
/-- copy(A[lo:], src) into a row of the call's own, cells of one -/
theorem op_copy {dT sT e : TypeId} {x y : Operand} {i k cap lo dLen dCap sLen sCap : Nat} {A A' : Option Addr} {xs cs : List Value} {w0 : World} {l m : List Ob} (H : HS w0 w l) (ho : o.op = .call { callee := .builtin .copy, args := #[x, y], argTypes := #[dT, sT] })
    (hx : ev L x = some (.slice (subA A cap lo 1) dLen dCap)) (hy : ev L y = some (.slice A' sLen sCap)) (hi : l[i]? = some (.row A k cap xs e 1)) (ht : P.underlying dT = some (.slice e)) (hz : (P.info? e).map (·.size) = some 1) (hr : Rd w A' cs)
    (hn : cs.length = Nat.min sLen dLen) (hp : 0 < cs.length) (hlo : lo < cap) (hl : lo + cs.length ≤ xs.length) (h1 : cs.all Value.oneCell' = true) (hm : l.set i (.row A k cap (putL xs lo cs) e 1) = m) :
    OpS P n L o w (fun u w' => u = .int .i64 (cs.length : Int) ∧ HS w0 w' m) := op_run fun a ha => by
  have hO : Own _ _ _ _ _ _ _ _ := H.at_ hi
  obtain ⟨a1, a2, a3, a4 | ⟨g, cur, hA, hB, hh, hs, htk⟩⟩ := hO
  · have : k = 0 := by omega
    subst this
    have : xs.length = 0 := by simpa using a1
    omega
  · subst hA
    have hcur : cur.size = cur.toList.length := by simp
    have hle : xs.length ≤ cur.size := by rw [a1]; exact Nat.le_trans (Nat.mul_le_mul_right _ a2) hs
    have hBk : Blk w g cur.toList e := by unfold Blk; simpa using hh
    obtain ⟨u0, hu0⟩ : ∃ u, cs[0]? = some u := ⟨_, List.getElem?_eq_getElem hp⟩
    obtain ⟨b', off', e', _, _⟩ := hr 0 u0 hu0
    subst e'
    have hld := run_loadCells_list (P := P) w ⟨b', off', none⟩ cs (fun j v hj => by
      obtain ⟨b2, o2, e2, _, hc⟩ := hr j v hj
      cases e2
      rw [add_at]; exact hc)
    obtain ⟨w', hst, hb, hgr, _⟩ := store_cells (P := P) cs cur.toList lo 0 w hBk (by rw [← hcur]; omega) (List.all_eq_true.1 h1)
    have hc0 : ¬ cap = 0 := by omega
    refine ⟨_, w', ?_, rfl, H.upd (o' := .row (some ⟨g, 0, none⟩) k cap (putL xs lo cs) e 1) hi (by simpa [Ob.block, hc0] using hgr) (show Own _ _ _ _ _ _ _ _ from ⟨by rw [putL_len]; exact a1, a2, a3, .inr ⟨g, (putL cur.toList lo cs).toArray, rfl, hB, by simpa [Blk] using hb, by simpa [putL_len] using hs, ?_⟩⟩) (fun _ h => .inl (by simpa [Ob.has, Ob.block, hc0] using h)) hm⟩
    · have hsub : subA (some ⟨g, 0, none⟩) cap lo 1 = some ⟨g, lo, none⟩ := by
        unfold subA
        rw [if_neg (by omega)]
        simp only [Option.map_some, Nat.mul_one, add_at, Nat.zero_add]
      rw [hsub] at hx
      cases hq : P.info? e with
      | none => rw [hq] at hz; cases hz
      | some inf =>
        have hs1 : inf.size = 1 := by simpa [hq] using hz
        unfold execOp
        simp [ho, resolve, invoke, builtin, ha.ev hx, ha.ev hy, Builtin.copy_, run_underlying ht, Builtin.lenOf, Builtin.firstCells, sizeOf, typeInfo, hq, hs1, ← hn, hld, hst, Result.andThen, goInt]
    · simp only
      rw [putL_take _ _ _ _ (by rw [← a1]; exact hl), htk]
/-- what an elder contract says -/
theorem ret_elder {f : FuncId} {args : List Value} {v : Value} {Q : World → Prop} (h : Calls P f args.toArray w fun r w' => r = .returned v ∧ Q w') : Ret P f args w (fun u w' => u = v ∧ Q w') :=
  Calls.mono h fun e w' ⟨he, hq⟩ => ⟨v, he, rfl, hq⟩
theorem HS.rdb {w0 : World} {l : List Ob} {i b : Nat} {cs : List Value} {T : TypeId} (h : HS w0 w l) (hi : l[i]? = some (.blk b cs T)) : Rd w (some ⟨b, 0, none⟩) cs := Blk.rd (h.at_ hi).2
theorem putL_vi {k : IntKind} : ∀ (zs cs : List Int) (i : Nat), i + cs.length ≤ zs.length → putL (vi k zs) i (vi k cs) = vi k (zs.take i ++ cs ++ zs.drop (i + cs.length))
  | zs, [], i, h => by simp [vi, putL]
  | zs, c :: cs, i, h => by
    simp only [List.length_cons] at h
    have := putL_vi (k := k) (zs.set i c) cs (i + 1) (by simp; omega)
    simp only [vi, List.map_cons, putL] at this ⊢
    rw [← List.map_set, this]
    congr 1
    have h1 : (zs.set i c).take (i + 1) = zs.take i ++ [c] := by
      apply List.ext_getElem?
      intro j
      rw [List.getElem?_take, List.getElem?_set, List.getElem?_append, List.length_take, List.getElem?_take]
      by_cases hj : j < i
      · simp [hj, show j < i + 1 by omega, show ¬ i = j by omega, show j < min i zs.length by omega]
      · by_cases hj' : j = i
        · subst hj'; simp [show ¬ j < min j zs.length by omega, show j - min j zs.length = 0 by omega, show j < zs.length by omega]
        · simp [show ¬ j < i + 1 by omega, show ¬ j < min i zs.length by omega]; omega
    have h2 : (zs.set i c).drop (i + 1 + cs.length) = zs.drop (i + (cs.length + 1)) := by
      rw [List.drop_set_of_lt (by omega)]; congr 1; omega
    rw [h1, h2, List.append_assoc, List.append_assoc, List.append_assoc]; simp [Nat.add_assoc, Nat.add_comm 1]
end
end Go.Proofs.Ytkphmcaoioaglaa
