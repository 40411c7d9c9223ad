/- Function values; interface values. -/
import Derived.Test.YtkphmcaoioaglaaK7
set_option linter.unusedVariables false
set_option linter.unusedSimpArgs false
namespace Go.Proofs.Ytkphmcaoioaglaa
open Go Go.RowKit

section
variable {P : Program} {n : Nat} {L : Fr} {o : Oper} {w : World}
theorem y_mkf {fn : Fn} {first caps : List Operand} {fs cs : List Value} (ho : o.op = .makeFunc fn first.toArray caps.toArray) (hf : evl L first fs) (hc : evl L caps cs) : Yd P n L o (.func fn fs.toArray cs.toArray) w := fun a ha => by
  unfold execOp
  simp only [ho, Instr.makeFunc, List.map_toArray, evl_map ha hf, evl_map ha hc, Sem.run_bind, Sem.run_pure, Result.andThen_ok]
theorem run_callv {f : FuncId} {x : Operand} {xs : List Operand} {ts : Array TypeId} {vs fs cs : List Value} {a : Act} (ha : Rep n L a) (ho : o.op = .call { callee := .value x, args := xs.toArray, argTypes := ts }) (hf : callB P f = true) (hx : ev L x = some (.func (.func f) fs.toArray cs.toArray)) (hv : evl L xs vs) :
    (execOp a.eval o).run P w = .ok (.enter f (fs ++ vs ++ cs).toArray) w := by
  unfold callB at hf
  split at hf
  · rename_i fn hfn
    simp only [Bool.and_eq_true, Bool.not_eq_true', beq_eq_false_iff_ne, ne_eq] at hf
    obtain ⟨h1, h2⟩ := hf
    have h3 : ¬ fn.body = none := by cases hb : fn.body <;> simp_all
    unfold execOp
    simp [ho, resolve, evl_map ha hv, ha.ev hx, Deferred.ofValue, invoke, callFunc, hfn, h1, h3]
  · cases hf
theorem op_callv {f : FuncId} {x : Operand} {xs : List Operand} {ts : Array TypeId} {vs fs cs : List Value} {R : Value → World → Prop} (hc : Ret P f (fs ++ vs ++ cs) w R) (ho : o.op = .call { callee := .value x, args := xs.toArray, argTypes := ts }) (hf : callB P f = true) (hx : ev L x = some (.func (.func f) fs.toArray cs.toArray)) (hv : evl L xs vs) : OpS P n L o w R := fun a ha => by
  unfold Oper.wp
  rw [run_callv ha ho hf hx hv]
  refine Calls.mono hc fun e w' ⟨v, he, hR⟩ => ?_
  subst he
  exact ⟨v, rfl, hR⟩
theorem qy_callv {R : World → Prop} {f : FuncId} {x : Operand} {xs : List Operand} {ts : Array TypeId} {vs fs cs : List Value} {v : Value} (hc : ∀ Y, R Y → Ret P f (fs ++ vs ++ cs) Y (fun u w' => u = v ∧ Below Y.heap.size Y w')) (ho : o.op = .call { callee := .value x, args := xs.toArray, argTypes := ts }) (hf : callB P f = true) (hx : ev L x = some (.func (.func f) fs.toArray cs.toArray)) (hv : evl L xs vs) : QY P n L R o v := fun a ha Y hY => by
  unfold Oper.quietAt
  rw [run_callv ha ho hf hx hv]
  refine ⟨rfl, Calls.mono (hc Y hY) fun e w' ⟨u, he, hu, hb⟩ => ?_⟩
  subst hu
  exact ⟨he, hb⟩
/-- a slice of bytes as a slice of bytes: its block is only read from now on -/
theorem op_cvsl {s e e' : TypeId} {x : Operand} {b i len cap size : Nat} {xs : List Value} {w0 : World} {l m : List Ob} (H : HS w0 w l) (ho : o.op = .convert s s x) (hs : P.underlying s = some (.slice e)) (he : P.underlying e = some (.int .u8)) (hx : ev L x = some (.slice (some ⟨b, 0, none⟩) len cap))
    (hi : l[i]? = some (.row (some ⟨b, 0, none⟩) len cap xs e' size)) (hc : Nat.blt 0 cap = true) (hm : l.set i (.ro b xs) = m) : OpS P n L o w (fun v w' => v = .slice (some ⟨b, 0, none⟩) len cap ∧ HS w0 w' m) := op_run fun a ha => by
  have hc' : 0 < cap := by simpa [Nat.blt_eq] using hc
  have hO : Own _ _ _ _ _ _ _ _ := H.at_ hi
  obtain ⟨a1, a2, a3, a4 | ⟨g, cur, hA, hB, hh, hsz, ht⟩⟩ := hO
  · omega
  · cases hA
    have hsh : w.shape? b = some (e', cur.size) := by unfold World.shape?; rw [hh]
    have hg : w.grownBy (w.freeze ⟨b, cur.size, none⟩ 1) (some b) := by
      refine ⟨by simp [World.freeze], by simp [World.freeze], by simp [World.freeze], by simp [World.freeze], fun k _ hk => ?_⟩
      simp only [World.freeze, Nat.one_ne_zero, if_false, Array.getElem?_modify]
      rw [if_neg (fun e => hk (by rw [e]))]
    have hb' : ∃ fr, (w.freeze ⟨b, cur.size, none⟩ 1).heap[b]? = some (.cells cur e' fr) := by
      simp only [World.freeze, Nat.one_ne_zero, if_false, Array.getElem?_modify, if_true, hh, Option.map_some]
      exact ⟨_, rfl⟩
    obtain ⟨fr, hfr⟩ := hb'
    refine ⟨_, w.freeze ⟨b, cur.size, none⟩ 1, ?_, rfl, H.upd (o' := .ro b xs) hi ?_ (show Ro _ _ _ _ from ⟨hB, cur, e', fr, hfr, by rw [a1]; exact ht⟩) ?_ hm⟩
    · unfold execOp
      simp only [ho, ha.ev hx, convert, Sem.run_bind, run_underlying hs w, run_underlying he w, Result.andThen_ok]
      simp [markStringish, run_underlying he w, hsh]
    · simpa [Ob.block, Nat.ne_of_gt hc'] using hg
    · intro k hk
      cases hk
      exact .inl (by simp [Ob.has, Ob.block, Nat.ne_of_gt hc'])
/-! interface values -/
def concB (P : Program) (t : TypeId) : Bool := match P.underlying t with | some (.interface _) => false | some _ => true | none => false
theorem concB_d {t : TypeId} (h : concB P t = true) : ∃ d, P.underlying t = some d ∧ ∀ ms, d ≠ .interface ms := by
  unfold concB at h
  cases hu : P.underlying t with
  | none => rw [hu] at h; cases h
  | some d =>
    rw [hu] at h
    refine ⟨d, rfl, fun ms e => ?_⟩
    subst e; cases h
theorem y_iface {t : TypeId} {x : Operand} {v : Value} (ho : o.op = .makeInterface t x) (ht : concB P t = true) (hx : ev L x = some v) : Yd P n L o (.iface t v) w := fun a ha => by
  obtain ⟨d, hu, hd⟩ := concB_d ht
  unfold execOp
  simp only [ho, ha.ev hx, Instr.makeInterface, Sem.run_bind, run_underlying hu w, Result.andThen_ok]
  cases d <;> first | exact absurd rfl (hd _) | simp
theorem y_tayes {xt t : TypeId} {x : Operand} {v : Value} (ho : o.op = .typeAssert x xt t true) (ht : concB P t = true) (hx : ev L x = some (.iface t v)) : Yd P n L o (.tuple #[v, .bool true]) w := fun a ha => by
  obtain ⟨d, hu, hd⟩ := concB_d ht
  unfold execOp
  simp only [ho, ha.ev hx, Instr.typeAssert, Sem.run_bind, run_underlying hu w, Result.andThen_ok]
  cases d <;> first | exact absurd rfl (hd _) | simp
theorem y_tano {xt t u : TypeId} {x : Operand} {v z : Value} (ho : o.op = .typeAssert x xt t true) (ht : concB P t = true) (hne : Nat.beq u t = false) (hz : (P.info? t).bind (·.zero) = some z) (hx : ev L x = some (.iface u v)) : Yd P n L o (.tuple #[z, .bool false]) w := fun a ha => by
  obtain ⟨d, hu, hd⟩ := concB_d ht
  have hne' : ¬ u = t := fun e => by subst e; rw [Nat.beq_refl] at hne; cases hne
  have hzv : (zeroValue t).run P w = .ok z w := by
    cases hi : P.info? t with
    | none => rw [hi] at hz; cases hz
    | some inf =>
      rw [hi] at hz
      have : inf.zero = some z := by simpa using hz
      simp [zeroValue, typeInfo, hi, this]
  unfold execOp
  simp only [ho, ha.ev hx, Instr.typeAssert, Sem.run_bind, run_underlying hu w, Result.andThen_ok]
  cases d <;> first | exact absurd rfl (hd _) | simp [hne', hzv]
theorem y_tav {xt t : TypeId} {x : Operand} {v : Value} (ho : o.op = .typeAssert x xt t false) (ht : concB P t = true) (hx : ev L x = some (.iface t v)) : Yd P n L o v w := fun a ha => by
  obtain ⟨d, hu, hd⟩ := concB_d ht
  unfold execOp
  simp only [ho, ha.ev hx, Instr.typeAssert, Sem.run_bind, run_underlying hu w, Result.andThen_ok]
  cases d <;> first | exact absurd rfl (hd _) | simp
/-- a method with a value receiver, called through an interface value -/
def methB (P : Program) (t : TypeId) (name : String) (f : FuncId) : Bool := match P.info? t with
  | some i => (match i.methods.find? (·.name == name) with | some m => m.path.isEmpty && (match m.func with | some (g, p) => Nat.beq g f && !p | none => false) | none => false)
  | none => false
def notPtrB (P : Program) (t : TypeId) : Bool := match P.underlying t with | some (.pointer _) => false | some _ => true | none => false
theorem run_method {t : TypeId} {v : Value} {name : String} {f : FuncId} (hm : methB P t name f = true) (hp : notPtrB P t = true) (k : Nat) : (method (k + 1) t v name).run P w = .ok (f, v) w := by
  unfold methB at hm
  split at hm
  · rename_i i hi
    split at hm
    · rename_i m hf
      simp only [Bool.and_eq_true] at hm
      obtain ⟨h1, h2⟩ := hm
      split at h2
      · rename_i g p hg
        simp only [Bool.and_eq_true, Bool.not_eq_true'] at h2
        have hgf : g = f := Nat.eq_of_beq_eq_true h2.1
        have hpf := h2.2
        subst hgf; subst hpf
        have hpath : m.path.toList = [] := by simpa using h1
        unfold notPtrB at hp
        cases hu : P.underlying t with
        | none => rw [hu] at hp; cases hp
        | some d =>
          rw [hu] at hp
          unfold method
          simp only [Sem.run_bind, typeInfo, run_program, Result.andThen_ok, hi, Sem.run_pure, hf, hpath, follow, hg, receiverAt, run_underlying hu w]
          cases d <;> first | rfl | cases hp
      · cases h2
    · cases hm
  · cases hm
theorem op_inv {f : FuncId} {x : Operand} {xs : List Operand} {ts : Array TypeId} {vs : List Value} {t : TypeId} {v : Value} {name : String} {R : Value → World → Prop} (hc : Ret P f (v :: vs) w R) (ho : o.op = .call { callee := .invoke x name, args := xs.toArray, argTypes := ts }) (hm : methB P t name f = true) (hp : notPtrB P t = true) (hf : callB P f = true) (hx : ev L x = some (.iface t v)) (hv : evl L xs vs) : OpS P n L o w R := fun a ha => by
  have : (execOp a.eval o).run P w = .ok (.enter f (v :: vs).toArray) w := by
    unfold callB at hf
    split at hf
    · rename_i fn hfn
      simp only [Bool.and_eq_true, Bool.not_eq_true', beq_eq_false_iff_ne, ne_eq] at hf
      obtain ⟨h1, h2⟩ := hf
      have h3 : ¬ fn.body = none := by cases hb : fn.body <;> simp_all
      obtain ⟨k, hk⟩ : ∃ k, P.types.size + Made.depth = k + 1 := ⟨P.types.size + Made.depth - 1, by
        have h : 0 < Made.depth := by decide
        omega⟩
      unfold execOp
      simp [ho, resolve, evl_map ha hv, ha.ev hx, invoke, callMethod, hk, run_method hm hp k, callFunc, hfn, h1, h3]
    · cases hf
  unfold Oper.wp
  rw [this]
  refine Calls.mono hc fun e w' ⟨u, he, hR⟩ => ?_
  subst he
  exact ⟨u, rfl, hR⟩
end
end Go.Proofs.Ytkphmcaoioaglaa
