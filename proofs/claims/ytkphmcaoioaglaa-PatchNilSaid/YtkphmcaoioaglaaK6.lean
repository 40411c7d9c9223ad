/- A region that draws its order, in small steps: H (one value in every world of the class), then T one by one. -/
import Derived.Test.YtkphmcaoioaglaaK5
set_option linter.unusedVariables false
set_option linter.unusedSimpArgs false
namespace Go.Proofs.Ytkphmcaoioaglaa
open Go Go.RowKit

section
variable {P : Program} {n : Nat} {ops : Array Oper} {R : World → Prop} {K : Fr → Prop} {L : Fr} {o : Oper} {l : List Oper}
/-- one value in every world of the class; a call may make memory -/
def QY (P : Program) (n : Nat) (L : Fr) (R : World → Prop) (o : Oper) (v : Value) : Prop := ∀ a, Rep n L a → ∀ Y, R Y → o.quietAt P a (fun w' => Below Y.heap.size Y w') Y v
theorem qy_yd {v : Value} (h : ∀ Y, R Y → Yd P n L o v Y) : QY P n L R o v := fun a ha Y hY => by
  unfold Oper.quietAt
  rw [h Y hY a ha]
  exact ⟨rfl, rfl⟩
theorem qy_call {f : FuncId} {xs : List Operand} {ts : Array TypeId} {vs : List Value} {v : Value} (hc : ∀ Y, R Y → Ret P f vs Y (fun u w' => u = v ∧ Below Y.heap.size Y w')) (ho : o.op = .call { callee := .value (.func f), args := xs.toArray, argTypes := ts }) (hf : callB P f = true) (hx : evl L xs vs) : QY P n L R o v := fun a ha Y hY => by
  have : (execOp a.eval o).run P Y = .ok (.enter f vs.toArray) Y := by
    unfold callB at hf
    split at hf
    · rename_i fn hfn
      simp only [Bool.and_eq_true, Bool.not_eq_true', beq_eq_false_iff_ne, ne_eq] at hf
      obtain ⟨h1, h2⟩ := hf
      have h3 : ¬ fn.body = none := by cases hb : fn.body <;> simp_all
      unfold execOp
      simp [ho, resolve, evl_map ha hx, Act.eval, Deferred.ofValue, invoke, callFunc, hfn, h1, h3]
    · cases hf
  unfold Oper.quietAt
  rw [this]
  refine ⟨rfl, Calls.mono (hc Y hY) fun e w' ⟨u, he, hu, hb⟩ => ?_⟩
  subst hu
  exact ⟨he, hb⟩
def Hk (P : Program) (n : Nat) (ops : Array Oper) (R : World → Prop) (K : Fr → Prop) : List Oper → Fr → Prop
  | [], L => K L
  | o :: l, L => ∃ v, ((∀ a, Rep n L a → Region.wanted o (yielded ops a.tmps) = true) ∧ QY P n L R o v ∨ (∀ a, Rep n L a → Region.wanted o (yielded ops a.tmps) = false) ∧ v = undef) ∧ dok n o.dst = true ∧ Hk P n ops R K l (up L o.dst v)
theorem hk_nil (h : K L) : Hk P n ops R K [] L := h
theorem hk_q {v : Value} (h : QY P n L R o v) (hg : o.guard = none) (hd : dok n o.dst = true) (k : Hk P n ops R K l (up L o.dst v)) : Hk P n ops R K (o :: l) L :=
  ⟨v, .inl ⟨fun a _ => by unfold Region.wanted; rw [hg], h⟩, hd, k⟩
theorem hk_y {v : Value} (h : ∀ Y, R Y → Yd P n L o v Y) (hg : o.guard = none) (hd : dok n o.dst = true) (k : Hk P n ops R K l (up L o.dst v)) : Hk P n ops R K (o :: l) L := hk_q (qy_yd h) hg hd k
theorem hk_on {g d : Nat} {b : Bool} {v : Value} (h : QY P n L R o v) (hg : o.guard = some (g, b)) (hgd : (ops[g]?).bind (·.dst) = some d) (hv : lk L d = some (.bool b)) (hd : dok n o.dst = true) (k : Hk P n ops R K l (up L o.dst v)) : Hk P n ops R K (o :: l) L :=
  ⟨v, .inl ⟨fun a ha => by unfold Region.wanted; simp [hg, guard_val ha hgd hv], h⟩, hd, k⟩
theorem hk_off {g d : Nat} {b c : Bool} (hg : o.guard = some (g, b)) (hgd : (ops[g]?).bind (·.dst) = some d) (hv : lk L d = some (.bool c)) (hbc : (c == b) = false) (hd : dok n o.dst = true) (k : Hk P n ops R K l (up L o.dst undef)) : Hk P n ops R K (o :: l) L :=
  ⟨undef, .inr ⟨fun a ha => by
    unfold Region.wanted
    simp only [hg, guard_val ha hgd hv]
    revert hbc
    cases b <;> cases c <;> simp, rfl⟩, hd, k⟩
/-- what one list of slots knows the other knows too -/
def le (M L : Fr) : Prop := ∀ t u, lk M t = some u → lk L t = some u
theorem le_up {M L : Fr} (h : le M L) (d : Option Nat) (v : Value) : le (up M d v) (up L d v) := by
  cases d with
  | none => exact h
  | some d =>
    intro t u hu
    simp only [up, lk] at *
    cases hb : Nat.beq d t <;> rw [hb] at hu
    · exact h t u hu
    · exact hu
theorem le_rep {M L : Fr} (h : le M L) {a : Act} (ha : Rep n L a) : Rep n M a := ⟨ha.size, ha.defers, fun t u hu => ha.at_ t u (h t u hu)⟩
theorem le_know {L : Fr} {d : Nat} {v : Value} (hv : lk L d = some v) : le ((d, v) :: L) L := fun t u hu => by
  simp only [lk] at hu
  cases hb : Nat.beq d t <;> rw [hb] at hu
  · exact hu
  · simp only [cond_true, Option.some.injEq] at hu
    have := Nat.eq_of_beq_eq_true hb
    subst this; subst hu; exact hv
theorem hk_le (hK : ∀ M L : Fr, le M L → K M → K L) : ∀ {l : List Oper} {M L : Fr}, le M L → Hk P n ops R K l M → Hk P n ops R K l L
  | [], M, L, h, k => hK M L h k
  | o :: l, M, L, h, ⟨v, h1, hd, k⟩ => by
    refine ⟨v, ?_, hd, hk_le hK (le_up h _ _) k⟩
    rcases h1 with ⟨h1, h2⟩ | ⟨h1, h2⟩
    · exact .inl ⟨fun a ha => h1 a (le_rep h ha), fun a ha => h2 a (le_rep h ha)⟩
    · exact .inr ⟨fun a ha => h1 a (le_rep h ha), h2⟩
theorem hk_split {d : Nat} {b : Bool} (hK : ∀ M L : Fr, le M L → K M → K L) (hv : lk L d = some (.bool b)) (ht : b = true → Hk P n ops R K l ((d, .bool true) :: L)) (hf : b = false → Hk P n ops R K l ((d, .bool false) :: L)) : Hk P n ops R K l L := by
  cases b
  · exact hk_le hK (le_know hv) (hf rfl)
  · exact hk_le hK (le_know hv) (ht rfl)
theorem hk_splitd {d : Nat} {p : Prop} [Decidable p] (hK : ∀ M L : Fr, le M L → K M → K L) (hv : lk L d = some (.bool (decide p))) (ht : p → Hk P n ops R K l ((d, .bool true) :: L)) (hf : ¬ p → Hk P n ops R K l ((d, .bool false) :: L)) : Hk P n ops R K l L :=
  hk_split hK hv (fun h => ht (of_decide_eq_true h)) (fun h => hf (of_decide_eq_false h))
theorem hk_quiet (hRx : ∀ X X', R X → Ext X X' → R X') : ∀ (l : List Oper) (L : Fr), Hk P n ops R K l L → ∀ a, Rep n L a →
    ∃ aF Lf, Rep n Lf aF ∧ K Lf ∧ ∀ X, R X → wpQuiet P ops (fun w' => ∃ x, w' = X.over x) (SameAct aF) l a
  | [], L, h, a, ha => ⟨a, L, ha, h, fun X _ => wpQuiet_nil (sameAct a)⟩
  | o :: l, L, ⟨v, h1, hd, k⟩, a, ha => by
    obtain ⟨aF, Lf, hF, hK, hq⟩ := hk_quiet hRx l _ k _ (ha.put hd v)
    refine ⟨aF, Lf, hF, hK, fun X hX => ?_⟩
    unfold wpQuiet
    rcases h1 with ⟨h1, h2⟩ | ⟨h1, h2⟩
    · rw [if_pos (h1 a ha)]
      refine ⟨v, fun Y hY => ?_, hq X hX⟩
      obtain ⟨x, rfl⟩ := hY
      have h3 := h2 a ha (X.over x) (hRx _ _ hX (over_below X x))
      unfold Oper.quietAt at *
      generalize (execOp a.eval o).run P (X.over x) = r at *
      cases r with
      | ok m w' =>
        cases m <;> simp only [Oper.quietUpon] at h3 ⊢
        case value u => exact h3
        case skip => exact h3
        case enter f args => exact ⟨h3.1, h3.2.mono fun e w'' ⟨he, hb⟩ => ⟨he, over_of ((over_below X x).trans (hb.mono (over_below X x).size))⟩⟩
      | halt x w' => simp only [Oper.quietUpon] at h3
    · rw [if_neg (by rw [h1 a ha]; decide)]
      subst h2
      exact hq X hX
/-! T -/
def Tv (P : Program) (n : Nat) (ops : Array Oper) (Q : Exit → Act → World → Prop) (R : World → Prop) (l : List Oper) (L : Fr) (w : World) : Prop := ∀ a, Rep n L a → wpHav P ops (fun a w => Q .normal a w) R l a w
variable {Q : Exit → Act → World → Prop} {w : World}
theorem tv_le {M L : Fr} (h : le M L) {l : List Oper} (k : Tv P n ops Q R l M w) : Tv P n ops Q R l L w := fun a ha => k a (le_rep h ha)
theorem tv_all {w0 : World} {ob : List Ob} {l : List Oper} : ∀ M L : Fr, le M L → (∀ X, HS w0 X ob → Tv P n ops Q R l M X) → ∀ X, HS w0 X ob → Tv P n ops Q R l L X := fun _ _ h k X hX => tv_le h (k X hX)
theorem tv_nil (h : Fin n Q .normal L w) : Tv P n ops Q R [] L w := fun a ha => h a ha
theorem tv_op {C : Value → World → Prop} (h : OpS P n L o w C) (hg : o.guard = none) (hd : dok n o.dst = true) (k : ∀ v w', C v w' → R w' ∧ ∀ X, Below w'.heap.size w' X → Tv P n ops Q R l (up L o.dst v) X) : Tv P n ops Q R (o :: l) L w := fun a ha => by
  unfold wpHav
  refine wpList_plain hg fun K' hK' => ?_
  refine wp_dead (fun a' w' ⟨v, e, hk⟩ => hK' _ _ ?_) (h a ha)
  subst e
  obtain ⟨h1, h2⟩ := k v w' hk
  exact wpList_nil ⟨rfl, h1, fun X hX => h2 X hX _ (ha.put hd v)⟩
/-- the region: the objects lR, which T doesn't write, are what H may read -/
theorem cw_draw {id : Nat} {l : List Oper} {w0 : World} {ob : List Ob} (H : HS w0 w ob) (hs ts : List Nat) {lR : List Ob} (hp : ∀ X, HS w0 X ob → HS w0 X lR) (hm : P.follows .mixedOrders = true) (hB : twoB l.toArray hs ts = true) (hR : roomB l.toArray hs n = true)
    (h : Hk P n l.toArray (fun X => HS w0 X lR) (fun Lf => ∀ X, HS w0 X ob → Tv P n l.toArray Q (fun X => HS w0 X lR) (pick l ts) Lf X) (pick l hs) L) : Cw P n Q (.region id l.toArray true) L w := fun a ha => by
  obtain ⟨aF, Lf, hF, hK, hq⟩ := hk_quiet (fun X X' h k => h.ext k) _ _ h a ha
  exact wp_region_two' hs ts aF (fun X => HS w0 X lR) (fun X hX => hp X (H.ext hX)) (fun X X' h k => h.ext k) hm hB (by rw [ha.size]; exact hR) hq (fun X hX => hK X (H.ext hX) aF hF)
end
end Go.Proofs.Ytkphmcaoioaglaa
