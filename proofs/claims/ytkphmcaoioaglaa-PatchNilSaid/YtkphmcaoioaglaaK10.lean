/- Pointers against nil from the left; rows of pointers. -/
import Derived.Test.YtkphmcaoioaglaaKL
set_option linter.unusedVariables false
set_option linter.unusedSimpArgs false
namespace Go.Proofs.Ytkphmcaoioaglaa
open Go Go.RowKit

section
variable {P : Program} {n : Nat} {L : Fr} {o : Oper} {w : World}
theorem run_eql_nil_pointer (t : TypeId) (p : Option Addr) (h : P.underlying t = some (.pointer (P.pointee t))) : (binOp .eql t (.pointer none) (.pointer p)).run P w = .ok (.bool p.isNone) w := by
  have h1 : ∀ d : Nat, (Op.equalIn (d + 1) t (.pointer none) (.pointer p)).run P w = .ok p.isNone w := fun d => by
    cases p <;> simp [Op.equalIn, run_underlying h]
  simp only [binOp]
  simp [Op.equal, Op.maxDepth, h1 9999]
theorem run_neq_nil_pointer (t : TypeId) (p : Option Addr) (h : P.underlying t = some (.pointer (P.pointee t))) : (binOp .neq t (.pointer none) (.pointer p)).run P w = .ok (.bool (!p.isNone)) w := by
  have h1 : ∀ d : Nat, (Op.equalIn (d + 1) t (.pointer none) (.pointer p)).run P w = .ok p.isNone w := fun d => by
    cases p <;> simp [Op.equalIn, run_underlying h]
  simp only [binOp]
  simp [Op.equal, Op.maxDepth, h1 9999]
theorem y_peqln {t t' e : TypeId} {x y : Operand} {A : Option Addr} (ho : o.op = .binOp .eql t x y t') (ht : P.underlying t = some (.pointer e)) (hx : ev L x = some (.pointer none)) (hy : ev L y = some (.pointer A)) : Yd P n L o (.bool A.isNone) w :=
  y_eq2 ho hx hy rfl (run_eql_nil_pointer t A (pointee_of ht))
theorem y_pneqn {t t' e : TypeId} {x y : Operand} {A : Option Addr} (ho : o.op = .binOp .neq t x y t') (ht : P.underlying t = some (.pointer e)) (hx : ev L x = some (.pointer none)) (hy : ev L y = some (.pointer A)) : Yd P n L o (.bool (!A.isNone)) w :=
  y_eq2 ho hx hy rfl (run_neq_nil_pointer t A (pointee_of ht))
/-- the place of an element, by the place of the slice alone -/
theorem y_iae {t : TypeId} {x y : Operand} {k : IntKind} {A : Option Addr} {len cap size i p : Nat} {q : Int} (hA : ∃ b off, A = some ⟨b, off, none⟩) (ho : o.op = .indexAddr t x y) (hx : ev L x = some (.slice A len cap)) (hy : ev L y = some (.int k q)) (ht : elB P t size = true)
    (hq : q = (i : Int)) (hi : i < len) (hp : i * size = p) : Yd P n L o (pt A p) w := by
  obtain ⟨b, off, rfl⟩ := hA
  have := y_ia (P := P) (n := n) (w := w) (p := off + p) ho hx hy ht rfl hq hi (by rw [hp])
  unfold pt
  rw [Option.map_some, add_at]
  exact this
end
/-! a guard on what was not reached -/
theorem guard_undef {n : Nat} {L : Fr} {a : Act} {ops : Array Oper} {g d : Nat} (ha : Rep n L a) (hgd : (ops[g]?).bind (·.dst) = some d) (hv : lk L d = some undef) : yielded ops a.tmps g = none := by
  unfold yielded
  rw [hgd, Option.bind_some, ha.at_ d _ hv]
  rfl
theorem rg_offu {P : Program} {n : Nat} {ops : Array Oper} {Q : Exit → Act → World → Prop} {L : Fr} {o : Oper} {rest : List Oper} {w : World} {g d : Nat} {b : Bool} (hg : o.guard = some (g, b)) (hgd : (ops[g]?).bind (·.dst) = some d) (hv : lk L d = some undef) (hd : dok n o.dst = true)
    (k : Reg P n ops Q rest (up L o.dst undef) w) : Reg P n ops Q (o :: rest) L w := fun a ha => by
  have hw : ¬ Region.wanted o (yielded ops a.tmps) = true := by
    unfold Region.wanted
    simp [hg, guard_undef ha hgd hv]
  unfold wpList
  rw [if_neg hw]
  exact k _ (ha.put hd undef)
theorem hk_offu {P : Program} {n : Nat} {ops : Array Oper} {R : World → Prop} {K : Fr → Prop} {L : Fr} {o : Oper} {l : List Oper} {g d : Nat} {b : Bool} (hg : o.guard = some (g, b)) (hgd : (ops[g]?).bind (·.dst) = some d) (hv : lk L d = some undef) (hd : dok n o.dst = true) (k : Hk P n ops R K l (up L o.dst undef)) : Hk P n ops R K (o :: l) L :=
  ⟨undef, .inr ⟨fun a ha => by
    unfold Region.wanted
    simp [hg, guard_undef ha hgd hv], rfl⟩, hd, k⟩
section
variable {P : Program} {n : Nat} {ops : Array Oper} {Q : Exit → Act → World → Prop} {R : World → Prop} {L : Fr} {o : Oper} {l : List Oper} {w : World}
theorem tv_on {C : Value → World → Prop} {g d : Nat} {b : Bool} (hg : o.guard = some (g, b)) (hgd : (ops[g]?).bind (·.dst) = some d) (hv : lk L d = some (.bool b)) (h : OpS P n L o w C) (hd : dok n o.dst = true) (k : ∀ v w', C v w' → R w' ∧ ∀ X, Below w'.heap.size w' X → Tv P n ops Q R l (up L o.dst v) X) : Tv P n ops Q R (o :: l) L w := fun a ha => by
  have hw : Region.wanted o (yielded ops a.tmps) = true := by
    unfold Region.wanted
    simp [hg, guard_val ha hgd hv]
  unfold wpHav wpList
  rw [if_pos hw]
  refine .inl (wp_dead (fun a' w' ⟨v, e, hk⟩ => ?_) (h a ha))
  subst e
  obtain ⟨h1, h2⟩ := k v w' hk
  exact wpList_nil ⟨rfl, h1, fun X hX => h2 X hX _ (ha.put hd v)⟩
theorem tv_off {g d : Nat} {b c : Bool} (hg : o.guard = some (g, b)) (hgd : (ops[g]?).bind (·.dst) = some d) (hv : lk L d = some (.bool c)) (hbc : (c == b) = false) (hd : dok n o.dst = true) (k : R w ∧ ∀ X, Below w.heap.size w X → Tv P n ops Q R l (up L o.dst undef) X) : Tv P n ops Q R (o :: l) L w := fun a ha => by
  have hw : ¬ Region.wanted o (yielded ops a.tmps) = true := by
    unfold Region.wanted
    simp only [hg, guard_val ha hgd hv]
    revert hbc
    cases b <;> cases c <;> simp
  unfold wpHav wpList
  rw [if_neg hw]
  exact wpList_nil ⟨rfl, k.1, fun X hX => k.2 X hX _ (ha.put hd undef)⟩
end
theorem HS.addr {w0 w : World} {l : List Ob} {i n cap size : Nat} {A : Option Addr} {xs : List Value} {e : TypeId} (h : HS w0 w l) (hi : l[i]? = some (.row A n cap xs e size)) (hn : 0 < n) : ∃ b off, A = some ⟨b, off, none⟩ := by
  have hO : Own _ _ _ _ _ _ _ _ := h.at_ hi
  obtain ⟨_, h2, _, h0 | ⟨g, cur, hA, _⟩⟩ := hO
  · omega
  · exact ⟨g, 0, hA⟩
theorem lawOf {P : Program} {f : FuncId} {args : List Value} {w : World} (h : Ret P f args w (fun v w' => v = .bool true ∧ Below w.heap.size w w')) : Calls P f args.toArray w fun e w' => e = .returned (.bool true) ∧ Below w.heap.size w w' :=
  Calls.mono h fun e w' ⟨v, he, hv, hb⟩ => ⟨by rw [he, hv], hb⟩
def I6 (x : Int) : Prop := -9223372036854775808 ≤ x ∧ x ≤ 9223372036854775807
theorem ret_v {P : Program} {f : FuncId} {args : List Value} {w : World} {u v : Value} {Q : World → Prop} (h : Ret P f args w (fun z w' => z = u ∧ Q w')) (e : u = v) : Ret P f args w (fun z w' => z = v ∧ Q w') := e ▸ h
theorem one_all {xs : List Value} (h : ∀ v ∈ xs, v.oneCell' = true) : xs.all Value.oneCell' = true := List.all_eq_true.2 h
/-- a row with one element put at its place -/
theorem putL_mid {a b : List Value} {u v : Value} {i : Nat} (h : a.length = i) : putL (a ++ u :: b) i [v] = a ++ [v] ++ b := by
  subst h
  simp [putL]
end Go.Proofs.Ytkphmcaoioaglaa
