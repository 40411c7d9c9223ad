/- A walk in small explicit steps: frames as lists of slots, one rule for each kind of operation. -/
import Derived.Test.YtkphmcaoioaglaaTwo
import Derived.IntWalk
import Derived.Deep.LoopGhost
import Derived.WalkKit
import Derived.WalkSpells
import Derived.WalkLawsBesides
set_option linter.unusedVariables false
set_option linter.unusedSimpArgs false
namespace Go.Proofs.Ytkphmcaoioaglaa
open Go Go.RowKit

abbrev Fr := List (Nat × Value)
def lk : Fr → Nat → Option Value
  | [], _ => none
  | (d, v) :: L, t => cond (Nat.beq d t) (some v) (lk L t)
def ev (L : Fr) : Operand → Option Value
  | .tmp t => lk L t
  | .const v => some v
  | .global g => some (.pointer (some ⟨g, 0, none⟩))
  | .func f => some (.func (.func f) #[] #[])
def up (L : Fr) : Option Nat → Value → Fr
  | some d, v => (d, v) :: L
  | none, _ => L
def dok (n : Nat) : Option Nat → Bool
  | some d => Nat.blt d n
  | none => true
structure Rep (n : Nat) (L : Fr) (a : Act) : Prop where
  size : a.tmps.size = n
  defers : a.defers = []
  at_ : ∀ t v, lk L t = some v → a.tmps[t]? = some v
section
variable {n : Nat} {L : Fr} {a : Act}
theorem Rep.ev (h : Rep n L a) {x : Operand} {v : Value} (e : ev L x = some v) : a.eval x = v := by
  cases x with
  | tmp t => simp only [Act.eval, Array.getD_eq_getD_getElem?, h.at_ t v e, Option.getD_some]
  | const u => simpa [Go.Proofs.Ytkphmcaoioaglaa.ev, Act.eval] using e
  | global g => simpa [Go.Proofs.Ytkphmcaoioaglaa.ev, Act.eval] using e
  | func f => simpa [Go.Proofs.Ytkphmcaoioaglaa.ev, Act.eval] using e
theorem Rep.put (h : Rep n L a) {d : Option Nat} (hd : dok n d = true) (v : Value) : Rep n (up L d v) (a.put d v) := by
  cases d with
  | none => exact h
  | some d =>
    have hd' : d < n := by simpa [dok, Nat.blt_eq] using hd
    refine ⟨by simp [Act.put, h.size], h.defers, fun t u hu => ?_⟩
    simp only [up, lk] at hu
    by_cases e : d = t
    · subst e
      have : Nat.beq d d = true := Nat.beq_refl d
      rw [this] at hu
      simp only [cond_true, Option.some.injEq] at hu
      subst hu
      simp [Act.put, h.size, hd']
    · have : Nat.beq d t = false := by
        cases hb : Nat.beq d t
        · rfl
        · exact absurd (Nat.eq_of_beq_eq_true hb) e
      rw [this] at hu
      simp only [cond_false] at hu
      simp only [Act.put]
      rw [Array.getElem?_setIfInBounds_ne e]
      exact h.at_ t u hu
def sub (L : Fr) : Fr → Prop
  | [] => True
  | (t, v) :: M => lk L t = some v ∧ sub L M
theorem sub_lk {L : Fr} : ∀ {M : Fr}, sub L M → ∀ t v, lk M t = some v → lk L t = some v
  | [], _, t, v, h => by cases h
  | (d, u) :: M, hs, t, v, h => by
    simp only [lk] at h
    cases hb : Nat.beq d t
    · rw [hb] at h; exact sub_lk hs.2 t v h
    · rw [hb] at h
      simp only [cond_true, Option.some.injEq] at h
      have := Nat.eq_of_beq_eq_true hb
      subst this; subst h
      exact hs.1
theorem Rep.weak (h : Rep n L a) {M : Fr} (hs : sub L M) : Rep n M a := ⟨h.size, h.defers, fun t v e => h.at_ t v (sub_lk hs t v e)⟩
end

section
variable {P : Program} {n : Nat} {ops : Array Oper} {Q : Exit → Act → World → Prop} {L : Fr} {o : Oper} {rest : List Oper} {w : World}
/-- one operation: what it yields, and the world behind it -/
def OpS (P : Program) (n : Nat) (L : Fr) (o : Oper) (w : World) (K : Value → World → Prop) : Prop :=
  ∀ a, Rep n L a → o.wp P a w (fun a' w' => ∃ v, a' = a.put o.dst v ∧ K v w') (fun _ _ _ => False)
/-- .. it only yields -/
def Yd (P : Program) (n : Nat) (L : Fr) (o : Oper) (v : Value) (w : World) : Prop := ∀ a, Rep n L a → (execOp a.eval o).run P w = .ok (.value v) w
def Reg (P : Program) (n : Nat) (ops : Array Oper) (Q : Exit → Act → World → Prop) (l : List Oper) (L : Fr) (w : World) : Prop := ∀ a, Rep n L a → wpList P ops Q l a w
def Cw (P : Program) (n : Nat) (Q : Exit → Act → World → Prop) (c : Code) (L : Fr) (w : World) : Prop := ∀ a, Rep n L a → c.wp P Q a w
def Fin (n : Nat) (Q : Exit → Act → World → Prop) (e : Exit) (L : Fr) (w : World) : Prop := ∀ a, Rep n L a → Q e a w

theorem wp_dead {a : Act} {K K' : Act → World → Prop} {Q' : Exit → Act → World → Prop} (hK : ∀ a w, K a w → K' a w) (hh : o.wp P a w K (fun _ _ _ => False)) : o.wp P a w K' Q' := by
  have h1 : o.wp P a w K' (fun _ _ _ => False) := Oper.wp_mono hK hh
  unfold Oper.wp at *
  generalize (execOp a.eval o).run P w = r at *
  cases r with
  | ok n w' =>
    cases n <;> simp only [Oper.upon] at h1 ⊢
    case value u => exact h1
    case skip => exact h1
    case defer d => exact h1
    case enter f args =>
      refine Calls.mono h1 fun e w'' he => ?_
      cases e with
      | returned u => exact he
      | panicked c => exact he.elim
      | outgrown => obtain ⟨_, _, hq⟩ := he; exact hq.elim
    case row row args => exact h1
  | halt x w' =>
    cases x <;> simp only [Oper.upon] at h1 ⊢
theorem OpS.mono {K K' : Value → World → Prop} (h : OpS P n L o w K) (hK : ∀ v w', K v w' → K' v w') : OpS P n L o w K' :=
  fun a ha => Oper.wp_mono (fun a' w' ⟨v, e, hk⟩ => ⟨v, e, hK v w' hk⟩) (h a ha)
theorem Yd.op {v : Value} (h : Yd P n L o v w) : OpS P n L o w (fun u w' => u = v ∧ w' = w) := fun a ha => by
  unfold Oper.wp
  rw [h a ha]
  exact ⟨v, rfl, rfl, rfl⟩
theorem reg_op {K : Value → World → Prop} (h : OpS P n L o w K) (hg : o.guard = none) (hd : dok n o.dst = true) (k : ∀ v w', K v w' → Reg P n ops Q rest (up L o.dst v) w') : Reg P n ops Q (o :: rest) L w := fun a ha => by
  refine wpList_plain hg fun K' hK' => ?_
  refine wp_dead (fun a' w' ⟨v, e, hk⟩ => hK' _ _ ?_) (h a ha)
  subst e
  exact k v w' hk _ (ha.put hd v)
theorem ry {v : Value} (h : Yd P n L o v w) (hg : o.guard = none) (hd : dok n o.dst = true) (k : Reg P n ops Q rest (up L o.dst v) w) : Reg P n ops Q (o :: rest) L w :=
  reg_op h.op hg hd fun u w' ⟨e1, e2⟩ => by subst e1; subst e2; exact k
theorem reg_nil (h : Fin n Q .normal L w) : Reg P n ops Q [] L w := fun a ha => wpList_nil (h a ha)
theorem reg_weak {M : Fr} {l : List Oper} (hs : sub L M) (h : Reg P n ops Q l M w) : Reg P n ops Q l L w := fun a ha => h a (ha.weak hs)
/-! guards -/
theorem guard_val {a : Act} {g d : Nat} {b : Bool} (ha : Rep n L a) (hgd : (ops[g]?).bind (·.dst) = some d) (hv : lk L d = some (.bool b)) : yielded ops a.tmps g = some b := by
  unfold yielded
  rw [hgd, Option.bind_some, ha.at_ d _ hv]
/-- the guard is met -/
theorem rg_on {g d : Nat} {b : Bool} {K : Value → World → Prop} (hg : o.guard = some (g, b)) (hgd : (ops[g]?).bind (·.dst) = some d) (hv : lk L d = some (.bool b)) (h : OpS P n L o w K) (hd : dok n o.dst = true)
    (k : ∀ v w', K v w' → Reg P n ops Q rest (up L o.dst v) w') : Reg P n ops Q (o :: rest) L w := fun a ha => by
  have hw : Region.wanted o (yielded ops a.tmps) = true := by
    unfold Region.wanted
    simp [hg, guard_val ha hgd hv]
  unfold wpList
  rw [if_pos hw]
  refine .inl (wp_dead (fun a' w' ⟨v, e, hk⟩ => ?_) (h a ha))
  subst e
  exact k v w' hk _ (ha.put hd v)
theorem rgy {g d : Nat} {b : Bool} {v : Value} (h : Yd P n L o v w) (hg : o.guard = some (g, b)) (hgd : (ops[g]?).bind (·.dst) = some d) (hv : lk L d = some (.bool b)) (hd : dok n o.dst = true)
    (k : Reg P n ops Q rest (up L o.dst v) w) : Reg P n ops Q (o :: rest) L w :=
  rg_on hg hgd hv h.op hd fun u w' ⟨e1, e2⟩ => by subst e1; subst e2; exact k
/-- the guard is not met -/
theorem rg_off {g d : Nat} {b c : Bool} (hg : o.guard = some (g, b)) (hgd : (ops[g]?).bind (·.dst) = some d) (hv : lk L d = some (.bool c)) (hbc : (c == b) = false) (hd : dok n o.dst = true)
    (k : Reg P n ops Q rest (up L o.dst undef) w) : Reg P n ops Q (o :: rest) L w := fun a ha => by
  have hw : ¬ Region.wanted o (yielded ops a.tmps) = true := by
    unfold Region.wanted
    simp only [hg, guard_val ha hgd hv]
    revert hbc
    cases b <;> cases c <;> simp
  unfold wpList
  rw [if_neg hw]
  exact k _ (ha.put hd undef)
theorem rep_know {a : Act} {d : Nat} {v : Value} (ha : Rep n L a) (hv : lk L d = some v) : Rep n ((d, v) :: L) a := by
  refine ⟨ha.size, ha.defers, fun t u hu => ?_⟩
  simp only [lk] at hu
  cases hb : Nat.beq d t
  · rw [hb] at hu; exact ha.at_ t u hu
  · rw [hb] at hu
    simp only [cond_true, Option.some.injEq] at hu
    have := Nat.eq_of_beq_eq_true hb
    subst this; subst hu
    exact ha.at_ _ _ hv
/-- a slot that holds a test is parted -/
theorem rg_split {d : Nat} {b : Bool} {l : List Oper} (hv : lk L d = some (.bool b)) (ht : b = true → Reg P n ops Q l ((d, .bool true) :: L) w) (hf : b = false → Reg P n ops Q l ((d, .bool false) :: L) w) : Reg P n ops Q l L w := fun a ha => by
  cases b
  · exact hf rfl a (rep_know ha hv)
  · exact ht rfl a (rep_know ha hv)
theorem rg_splitd {d : Nat} {p : Prop} [Decidable p] {l : List Oper} (hv : lk L d = some (.bool (decide p))) (ht : p → Reg P n ops Q l ((d, .bool true) :: L) w) (hf : ¬ p → Reg P n ops Q l ((d, .bool false) :: L) w) : Reg P n ops Q l L w :=
  rg_split hv (fun h => ht (of_decide_eq_true h)) (fun h => hf (of_decide_eq_false h))
/-- .. it is known -/
theorem rg_know {d : Nat} {v u : Value} {l : List Oper} (hv : lk L d = some v) (e : v = u) (k : Reg P n ops Q l ((d, u) :: L) w) : Reg P n ops Q l L w := fun a ha => by
  subst e; exact k a (rep_know ha hv)
end

/-! ### the code around the regions -/
section
variable {P : Program} {n : Nat} {Q : Exit → Act → World → Prop} {L : Fr} {w : World}
theorem cw_seq {x y : Code} (h : Cw P n (Exit.then (y.wp P Q) Q) x L w) : Cw P n Q (x.seq y) L w := fun a ha => wp_seq (h a ha)
theorem cw_reg {id : Nat} {l : List Oper} (h : Reg P n l.toArray Q l L w) : Cw P n Q (.region id l.toArray false) L w := fun a ha => wp_region_lit (h a ha)
theorem cw_skip (h : Fin n Q .normal L w) : Cw P n Q .skip L w := fun a ha => wp_skip (h a ha)
theorem cw_ret (h : Fin n Q .ret L w) : Cw P n Q .ret L w := fun a ha => wp_ret (h a ha)
theorem cw_exit {id : Nat} (h : Fin n Q (.exit id) L w) : Cw P n Q (.exit id) L w := fun a ha => wp_exit (h a ha)
theorem cw_block {id : Nat} {c : Code} (h : Cw P n (Exit.inBlock id Q) c L w) : Cw P n Q (.block id c) L w := fun a ha => wp_block (h a ha)
theorem cw_cond {c : Operand} {x y : Code} {b : Bool} (hc : ev L c = some (.bool b)) (ht : b = true → Cw P n Q x L w) (hf : b = false → Cw P n Q y L w) : Cw P n Q (.cond c x y) L w := fun a ha => by
  refine wp_cond (ha.ev hc) ?_
  cases b
  · exact hf rfl a ha
  · exact ht rfl a ha
theorem cw_condd {c : Operand} {x y : Code} {p : Prop} [Decidable p] (hc : ev L c = some (.bool (decide p))) (ht : p → Cw P n Q x L w) (hf : ¬ p → Cw P n Q y L w) : Cw P n Q (.cond c x y) L w :=
  cw_cond hc (fun h => ht (of_decide_eq_true h)) (fun h => hf (of_decide_eq_false h))
theorem cw_condt {c : Operand} {x y : Code} (hc : ev L c = some (.bool true)) (ht : Cw P n Q x L w) : Cw P n Q (.cond c x y) L w := cw_cond hc (fun _ => ht) (fun h => by cases h)
theorem cw_condf {c : Operand} {x y : Code} (hc : ev L c = some (.bool false)) (ht : Cw P n Q y L w) : Cw P n Q (.cond c x y) L w := cw_cond hc (fun h => by cases h) (fun _ => ht)
theorem cw_weak {M : Fr} {c : Code} (hs : sub L M) (h : Cw P n Q c M w) : Cw P n Q c L w := fun a ha => h a (ha.weak hs)
/-! where a way ends -/
theorem fn_next {y : Code} (h : Cw P n Q y L w) : Fin n (Exit.then (y.wp P Q) Q) .normal L w := h
theorem fn_then_ret {f : Act → World → Prop} (h : Fin n Q .ret L w) : Fin n (Exit.then f Q) .ret L w := h
theorem fn_then_exit {f : Act → World → Prop} {id : Nat} (h : Fin n Q (.exit id) L w) : Fin n (Exit.then f Q) (.exit id) L w := h
theorem fn_block {id : Nat} (h : Fin n Q .normal L w) : Fin n (Exit.inBlock id Q) .normal L w := h
theorem fn_block_ret {id : Nat} (h : Fin n Q .ret L w) : Fin n (Exit.inBlock id Q) .ret L w := h
theorem fn_block_exit {id : Nat} (h : Fin n Q .normal L w) : Fin n (Exit.inBlock id Q) (.exit id) L w := fun a ha => by
  show (if id = id then _ else _)
  rw [if_pos rfl]; exact h a ha
theorem fn_block_out {id id' : Nat} (e : Nat.beq id' id = false) (h : Fin n Q (.exit id') L w) : Fin n (Exit.inBlock id Q) (.exit id') L w := fun a ha => by
  show (if id' = id then _ else _)
  rw [if_neg (fun h => by subst h; rw [Nat.beq_refl] at e; cases e)]; exact h a ha
/-! a loop: M gives the slots that stand at each round's head, I what is known -/
theorem cw_loop {ι : Type} {c : Code} (M : ι → Fr) (I : ι → World → Prop) (μ : ι → Nat) (i0 : ι) (hM : sub L (M i0)) (hI : I i0 w)
    (round : ∀ i w, I i w → Cw P n (Exit.then (fun a' w' => ∃ i', Rep n (M i') a' ∧ I i' w' ∧ μ i' < μ i) Q) c (M i) w) : Cw P n Q (.loop c) L w := fun a ha => by
  refine wp_loop_ghost (fun k a w => ∃ i, Rep n (M i) a ∧ I i w ∧ μ i = k) (μ i0) ⟨i0, ha.weak hM, hI, rfl⟩ ?_
  intro k a w ⟨i, hr, hi, hk⟩
  subst hk
  refine wp_mono (round i w hi a hr) ?_
  intro e a' w' hq
  cases e with
  | normal =>
    obtain ⟨i', h1, h2, h3⟩ := hq
    exact ⟨μ i', h3, i', h1, h2, rfl⟩
  | exit id => exact hq
  | goto l => exact hq
  | ret => exact hq
  | panic ch => exact hq
  | outgrown => exact hq
theorem fn_round {ι : Type} {M : ι → Fr} {I : ι → World → Prop} {m : Nat} {μ : ι → Nat} (i : ι) (hM : sub L (M i)) (hI : I i w) (hm : μ i < m) : Fin n (Exit.then (fun a' w' => ∃ i', Rep n (M i') a' ∧ I i' w' ∧ μ i' < m) Q) .normal L w :=
  fun a ha => ⟨i, ha.weak hM, hI, hm⟩
/-! a loop by a relation on the slots that it writes (ds), the world and a measure -/
def hasN (ds : List Nat) (t : Nat) : Bool := ds.any (Nat.beq t)
def drp (ds : List Nat) : Fr → Fr
  | [] => []
  | (d, v) :: L => cond (hasN ds d) (drp ds L) ((d, v) :: drp ds L)
def keysIn (ds : List Nat) : Fr → Bool
  | [] => true
  | (d, _) :: L => hasN ds d && keysIn ds L
theorem drp_lk {ds : List Nat} : ∀ {L : Fr} {t : Nat} {v : Value}, lk (drp ds L) t = some v → hasN ds t = false ∧ lk L t = some v
  | [], _, _, h => by cases h
  | (d, u) :: L, t, v, h => by
    simp only [drp] at h
    cases hb : hasN ds d
    · rw [hb] at h
      simp only [cond_false, lk] at h ⊢
      cases hd : Nat.beq d t
      · rw [hd] at h; exact drp_lk (L := L) h
      · rw [hd] at h
        have := Nat.eq_of_beq_eq_true hd
        subst this
        exact ⟨hb, h⟩
    · rw [hb] at h
      simp only [cond_true] at h
      obtain ⟨h1, h2⟩ := drp_lk (L := L) h
      refine ⟨h1, ?_⟩
      simp only [lk]
      cases hd : Nat.beq d t
      · exact h2
      · have := Nat.eq_of_beq_eq_true hd
        subst this
        rw [h1] at hb; cases hb
theorem lk_drp {ds : List Nat} : ∀ {L : Fr} {t : Nat} {v : Value}, hasN ds t = false → lk L t = some v → lk (drp ds L) t = some v
  | [], _, _, _, h => by cases h
  | (d, u) :: L, t, v, hn, h => by
    simp only [lk] at h
    simp only [drp]
    cases hd : Nat.beq d t
    · rw [hd] at h
      cases hb : hasN ds d
      · simp only [cond_false, lk, hd]; exact lk_drp hn h
      · exact lk_drp hn h
    · rw [hd] at h
      have := Nat.eq_of_beq_eq_true hd
      subst this
      rw [hn]
      simp only [cond_false, lk, hd]; exact h
theorem lk_app {ds : List Nat} : ∀ {M N : Fr} {t : Nat}, keysIn ds M = true → hasN ds t = false → lk (M ++ N) t = lk N t
  | [], _, _, _, _ => rfl
  | (d, u) :: M, N, t, hk, hn => by
    simp only [keysIn, Bool.and_eq_true] at hk
    simp only [List.cons_append, lk]
    cases hd : Nat.beq d t
    · exact lk_app hk.2 hn
    · have := Nat.eq_of_beq_eq_true hd
      subst this
      rw [hn] at hk; cases hk.1
theorem lk_app_or : ∀ {M N : Fr} {t : Nat} {v : Value}, lk (M ++ N) t = some v → lk M t = some v ∨ lk N t = some v
  | [], _, _, _, h => .inr h
  | (d, u) :: M, N, t, v, h => by
    simp only [List.cons_append, lk] at h ⊢
    cases hd : Nat.beq d t
    · rw [hd] at h; exact lk_app_or h
    · rw [hd] at h; exact .inl h
/-- L knows of all slots that are not in ds what B knows -/
def Kp (ds : List Nat) (L B : Fr) : Prop := ∀ t u, hasN ds t = false → lk B t = some u → lk L t = some u
theorem kp_refl {ds : List Nat} {B : Fr} : Kp ds B B := fun _ _ _ h => h
theorem kp_cons {ds : List Nat} {B L : Fr} {d : Nat} {v : Value} (hd : hasN ds d = true) (h : Kp ds L B) : Kp ds ((d, v) :: L) B := fun t u hn hu => by
  simp only [lk]
  cases hb : Nat.beq d t
  · exact h t u hn hu
  · have := Nat.eq_of_beq_eq_true hb
    subst this
    rw [hn] at hd; cases hd
theorem kp_app {ds es : List Nat} {B L M : Fr} (hM : keysIn ds M = true) (he : es.all (hasN ds) = true) (h : Kp ds L B) : Kp ds (M ++ drp es L) B := fun t u hn hu => by
  rw [lk_app hM hn]
  refine lk_drp ?_ (h t u hn hu)
  cases hb : hasN es t
  · rfl
  · unfold hasN at hb
    obtain ⟨x, hx, hxt⟩ := List.any_eq_true.1 hb
    have := Nat.eq_of_beq_eq_true hxt
    subst this
    have h1 := List.all_eq_true.1 he t hx
    rw [hn] at h1; cases h1
theorem cw_loopJ {c : Code} (ds : List Nat) (J : Fr → World → Nat → Prop) {M0 : Fr} {m0 : Nat} (h0 : J M0 w m0) (hM : sub L M0)
    (round : ∀ M w m, J M w m → Cw P n (Exit.then (fun a' w' => ∃ M' m', Rep n (M' ++ drp ds L) a' ∧ J M' w' m' ∧ m' < m) Q) c (M ++ drp ds L) w) : Cw P n Q (.loop c) L w := fun a ha => by
  refine wp_loop_ghost (fun k a w => ∃ M, Rep n (M ++ drp ds L) a ∧ J M w k) m0 ⟨M0, ⟨ha.size, ha.defers, fun t v h => ?_⟩, h0⟩ ?_
  · rcases lk_app_or h with h1 | h1
    · exact ha.at_ t v (sub_lk hM t v h1)
    · exact ha.at_ t v (drp_lk h1).2
  intro k a w ⟨M, hr, hJ⟩
  refine wp_mono (round M w k hJ a hr) ?_
  intro e a' w' hq
  cases e with
  | normal =>
    obtain ⟨M', m', h1, h2, h3⟩ := hq
    exact ⟨m', h3, M', h1, h2⟩
  | exit id => exact hq
  | goto l => exact hq
  | ret => exact hq
  | panic ch => exact hq
  | outgrown => exact hq
theorem fn_roundJ {ds : List Nat} {J : Fr → World → Nat → Prop} {L0 M M' : Fr} {m m' : Nat} (hJ : J M' w m') (hM : sub L M') (hlt : m' < m) (hk : Kp ds L (M ++ drp ds L0)) (hin : keysIn ds M = true) :
    Fin n (Exit.then (fun a' w' => ∃ M' m', Rep n (M' ++ drp ds L0) a' ∧ J M' w' m' ∧ m' < m) Q) .normal L w := fun a ha =>
  ⟨M', m', ⟨ha.size, ha.defers, fun t v h => by
    rcases lk_app_or h with h1 | h1
    · exact ha.at_ t v (sub_lk hM t v h1)
    · refine ha.at_ t v (hk t v (drp_lk h1).1 ?_)
      rw [lk_app hin (drp_lk h1).1]; exact h1⟩, hJ, hlt⟩
/-! where a call begins and where it ends -/
def ini : Nat → List Value → Fr
  | _, [] => []
  | k, v :: l => (k, v) :: ini (k + 1) l
theorem ini_lk : ∀ (l : List Value) (k t : Nat) (v : Value), lk (ini k l) t = some v → k ≤ t ∧ l[t - k]? = some v
  | [], _, _, _, h => by cases h
  | u :: l, k, t, v, h => by
    simp only [ini, lk] at h
    cases hb : Nat.beq k t
    · rw [hb] at h
      obtain ⟨h1, h2⟩ := ini_lk l (k + 1) t v h
      refine ⟨by omega, ?_⟩
      obtain ⟨m, hm⟩ : ∃ m, t - k = m + 1 := ⟨t - (k + 1), by omega⟩
      have : t - (k + 1) = m := by omega
      rw [this] at h2
      rw [hm]; simpa using h2
    · rw [hb] at h
      simp only [cond_true, Option.some.injEq] at h
      have := Nat.eq_of_beq_eq_true hb
      subst this; subst h
      simp
theorem cw_enter {f : FuncId} {fn : Func} {c : Code} {args : List Value} {R : Ending → World → Prop} (hf : P.funcs[f]? = some fn) (hb : fn.body = some c) (hn : fn.ntmps = n) (hle : Nat.ble args.length n = true)
    (h : Cw P n (bodyPost P fn R) c (ini 0 args) w) : Calls P f args.toArray w R := by
  refine calls_of_wp hf hb (h _ ?_)
  subst hn
  have hle' : args.length ≤ fn.ntmps := Nat.le_of_ble_eq_true hle
  refine ⟨by simp; omega, rfl, fun t v e => ?_⟩
  obtain ⟨_, h2⟩ := ini_lk args 0 t v e
  rw [Nat.sub_zero] at h2
  have : t < args.length := by
    rcases Nat.lt_or_ge t args.length with h | h
    · exact h
    · rw [List.getElem?_eq_none h] at h2; cases h2
  rw [Array.getElem?_append_left (by simpa using this)]
  simpa using h2
def Ret (P : Program) (f : FuncId) (args : List Value) (w : World) (R : Value → World → Prop) : Prop := Calls P f args.toArray w (fun e w' => ∃ v, e = .returned v ∧ R v w')
theorem Ret.mono {f : FuncId} {args : List Value} {R R' : Value → World → Prop} (h : Ret P f args w R) (hR : ∀ v w', R v w' → R' v w') : Ret P f args w R' :=
  Calls.mono h fun _ _ ⟨v, e, hv⟩ => ⟨v, e, hR _ _ hv⟩
theorem ret_enter {f : FuncId} {fn : Func} {c : Code} {args : List Value} {R : Value → World → Prop} (hf : P.funcs[f]? = some fn) (hb : fn.body = some c) (hn : fn.ntmps = n) (hle : Nat.ble args.length n = true)
    (h : Cw P n (bodyPost P fn (fun e w' => ∃ v, e = .returned v ∧ R v w')) c (ini 0 args) w) : Ret P f args w R := cw_enter hf hb hn hle h
/-- what a result's variable holds in the end -/
def ResAt (P : Program) (L : Fr) (w : World) : ResultVar → Value → Prop
  | .tmp t, v => lk L t = some v
  | .cell p ty, v => ∃ ad, lk L p = some (.pointer (some ad)) ∧ (loadVar ty ad).run P w = .ok v w
def ResL (P : Program) (L : Fr) (w : World) : List ResultVar → List Value → Prop
  | [], [] => True
  | r :: rs, v :: vs => ResAt P L w r v ∧ ResL P L w rs vs
  | _, _ => False
theorem mapM_run {g : ResultVar → Sem Value} (hg : ∀ r v, ResAt P L w r v → (g r).run P w = .ok v w) : ∀ (rs : List ResultVar) (vs : List Value), ResL P L w rs vs → (rs.mapM g).run P w = .ok vs w
  | [], [], _ => by simp
  | r :: rs, v :: vs, ⟨h1, h2⟩ => by
    have ih := mapM_run hg rs vs h2
    rw [List.mapM_cons]
    simp only [Sem.run_bind, Sem.run_pure, hg r v h1, Result.andThen_ok, ih]
theorem res_one {g : ResultVar → Sem Value} {rs : Array ResultVar} {vs : List Value} (hg : ∀ r v, ResAt P L w r v → (g r).run P w = .ok v w) (h : ResL P L w rs.toList vs) {f : Array Value → Value} : (do let vs ← rs.mapM g; pure (f vs) : Sem Value).run P w = .ok (f vs.toArray) w := by
  rw [Array.mapM_eq_mapM_toList]
  simp only [Sem.run_bind, Sem.run_map, mapM_run hg _ _ h, Result.andThen_ok, Sem.run_pure]
theorem res_all {fn : Func} {a : Act} {vs : List Value} (ha : Rep n L a) (h : ResL P L w fn.results.toList vs) : (results fn a.tmps).run P w = .ok (if h : vs.toArray.size = 1 then vs.toArray[0] else .tuple vs.toArray) w := by
  unfold results
  refine res_one (L := L) (f := fun vs => if h : vs.size = 1 then vs[0] else .tuple vs) (fun r v hr => ?_) h
  cases r with
  | tmp t =>
    have e : a.tmps[t]? = some v := ha.at_ t v hr
    simp [e]
  | cell p ty =>
    obtain ⟨ad, h3, h4⟩ := hr
    have e : a.tmps[p]? = some (.pointer (some ad)) := ha.at_ p _ h3
    simp [e, asAddr, h4]
theorem fn_ret1 {fn : Func} {R : Value → World → Prop} {r : ResultVar} {v : Value} (hr : fn.results = #[r]) (hv : ResAt P L w r v) (h : R v w) : Fin n (bodyPost P fn (fun e w' => ∃ v, e = .returned v ∧ R v w')) .ret L w :=
  fun a ha => ⟨ha.defers, v, by rw [res_all (vs := [v]) ha (by rw [hr]; exact ⟨hv, trivial⟩)]; rfl, v, rfl, h⟩
theorem fn_retn {fn : Func} {R : Value → World → Prop} {rs : List ResultVar} {vs : List Value} (hr : fn.results = rs.toArray) (hv : ResL P L w rs vs) (h1 : (vs.length == 1) = false) (h : R (.tuple vs.toArray) w) :
    Fin n (bodyPost P fn (fun e w' => ∃ v, e = .returned v ∧ R v w')) .ret L w :=
  fun a ha => ⟨ha.defers, _, by rw [res_all (vs := vs) ha (by rw [hr]; exact hv), dif_neg (by simpa using h1)], _, rfl, h⟩
theorem fn_normal {fn : Func} {R : Ending → World → Prop} (h : Fin n (bodyPost P fn R) .ret L w) : Fin n (bodyPost P fn R) .normal L w := h
end
end Go.Proofs.Ytkphmcaoioaglaa
