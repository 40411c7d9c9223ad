/- Texts as one: K1, K2, K3, K4, K5, K6. -/
import Derived.Test.YtbnjbgcadkdljaaGreatDoorMA
import Derived.IntWalk
import Derived.Deep.LoopGhost
import Derived.WalkKit
import Derived.WalkSpells
import Derived.WalkLawsBesides
import Derived.Laws.AppendOwnNone
import Derived.Laws.MakeOwn
import Derived.Laws.Slices
import Derived.Laws.BytesString
set_option linter.unusedVariables false
set_option linter.unusedSimpArgs false
namespace Go.Proofs.YtbnjbgcadkdljaaGreatDoor
open Go Go.RowKit

abbrev Fr := List (Nat × Value)
def lk : Fr → Nat → Option Value
  | [], _ => none
  | (d, v) :: L, t => cond (Nat.beq d t) (some v) (lk L t)
def ev (L : Fr) : Operand → Option Value
  | .tmp t => lk L t
  | .const v => some v
  | .global g => some (.pointer (some ⟨g, 0, none⟩))
  | .func f => some (.func (.func f) #[] #[])
def up (L : Fr) : Option Nat → Value → Fr
  | some d, v => (d, v) :: L
  | none, _ => L
def dok (n : Nat) : Option Nat → Bool
  | some d => Nat.blt d n
  | none => true
structure Rep (n : Nat) (L : Fr) (a : Act) : Prop where
  size : a.tmps.size = n
  defers : a.defers = []
  at_ : ∀ t v, lk L t = some v → a.tmps[t]? = some v
section
variable {n : Nat} {L : Fr} {a : Act}
theorem Rep.ev (h : Rep n L a) {x : Operand} {v : Value} (e : ev L x = some v) : a.eval x = v := by
  cases x with
  | tmp t => simp only [Act.eval, Array.getD_eq_getD_getElem?, h.at_ t v e, Option.getD_some]
  | const u => simpa [Go.Proofs.YtbnjbgcadkdljaaGreatDoor.ev, Act.eval] using e
  | global g => simpa [Go.Proofs.YtbnjbgcadkdljaaGreatDoor.ev, Act.eval] using e
  | func f => simpa [Go.Proofs.YtbnjbgcadkdljaaGreatDoor.ev, Act.eval] using e
theorem Rep.put (h : Rep n L a) {d : Option Nat} (hd : dok n d = true) (v : Value) : Rep n (up L d v) (a.put d v) := by
  cases d with
  | none => exact h
  | some d =>
    have hd' : d < n := by simpa [dok, Nat.blt_eq] using hd
    refine ⟨by simp [Act.put, h.size], h.defers, fun t u hu => ?_⟩
    simp only [up, lk] at hu
    by_cases e : d = t
    · subst e
      have : Nat.beq d d = true := Nat.beq_refl d
      rw [this] at hu
      simp only [cond_true, Option.some.injEq] at hu
      subst hu
      simp [Act.put, h.size, hd']
    · have : Nat.beq d t = false := by
        cases hb : Nat.beq d t
        · rfl
        · exact absurd (Nat.eq_of_beq_eq_true hb) e
      rw [this] at hu
      simp only [cond_false] at hu
      simp only [Act.put]
      rw [Array.getElem?_setIfInBounds_ne e]
      exact h.at_ t u hu
def sub (L : Fr) : Fr → Prop
  | [] => True
  | (t, v) :: M => lk L t = some v ∧ sub L M
theorem sub_lk {L : Fr} : ∀ {M : Fr}, sub L M → ∀ t v, lk M t = some v → lk L t = some v
  | [], _, t, v, h => by cases h
  | (d, u) :: M, hs, t, v, h => by
    simp only [lk] at h
    cases hb : Nat.beq d t
    · rw [hb] at h; exact sub_lk hs.2 t v h
    · rw [hb] at h
      simp only [cond_true, Option.some.injEq] at h
      have := Nat.eq_of_beq_eq_true hb
      subst this; subst h
      exact hs.1
end

section
variable {P : Program} {n : Nat} {ops : Array Oper} {Q : Exit → Act → World → Prop} {L : Fr} {o : Oper} {rest : List Oper} {w : World}
/-- one operation: what it yields, and the world behind it -/
def OpS (P : Program) (n : Nat) (L : Fr) (o : Oper) (w : World) (K : Value → World → Prop) : Prop :=
  ∀ a, Rep n L a → o.wp P a w (fun a' w' => ∃ v, a' = a.put o.dst v ∧ K v w') (fun _ _ _ => False)
/-- .. it only yields -/
def Yd (P : Program) (n : Nat) (L : Fr) (o : Oper) (v : Value) (w : World) : Prop := ∀ a, Rep n L a → (execOp a.eval o).run P w = .ok (.value v) w
def Reg (P : Program) (n : Nat) (ops : Array Oper) (Q : Exit → Act → World → Prop) (l : List Oper) (L : Fr) (w : World) : Prop := ∀ a, Rep n L a → wpList P ops Q l a w
def Cw (P : Program) (n : Nat) (Q : Exit → Act → World → Prop) (c : Code) (L : Fr) (w : World) : Prop := ∀ a, Rep n L a → c.wp P Q a w
def Fin (n : Nat) (Q : Exit → Act → World → Prop) (e : Exit) (L : Fr) (w : World) : Prop := ∀ a, Rep n L a → Q e a w

theorem wp_dead {a : Act} {K K' : Act → World → Prop} {Q' : Exit → Act → World → Prop} (hK : ∀ a w, K a w → K' a w) (hh : o.wp P a w K (fun _ _ _ => False)) : o.wp P a w K' Q' := by
  have h1 : o.wp P a w K' (fun _ _ _ => False) := Oper.wp_mono hK hh
  unfold Oper.wp at *
  generalize (execOp a.eval o).run P w = r at *
  cases r with
  | ok n w' =>
    cases n <;> simp only [Oper.upon] at h1 ⊢
    case value u => exact h1
    case skip => exact h1
    case defer d => exact h1
    case enter f args =>
      refine Calls.mono h1 fun e w'' he => ?_
      cases e with
      | returned u => exact he
      | panicked c => exact he.elim
      | outgrown => obtain ⟨_, _, hq⟩ := he; exact hq.elim
    case row row args => exact h1
  | halt x w' =>
    cases x <;> simp only [Oper.upon] at h1 ⊢
theorem OpS.mono {K K' : Value → World → Prop} (h : OpS P n L o w K) (hK : ∀ v w', K v w' → K' v w') : OpS P n L o w K' :=
  fun a ha => Oper.wp_mono (fun a' w' ⟨v, e, hk⟩ => ⟨v, e, hK v w' hk⟩) (h a ha)
theorem Yd.op {v : Value} (h : Yd P n L o v w) : OpS P n L o w (fun u w' => u = v ∧ w' = w) := fun a ha => by
  unfold Oper.wp
  rw [h a ha]
  exact ⟨v, rfl, rfl, rfl⟩
theorem reg_op {K : Value → World → Prop} (h : OpS P n L o w K) (hg : o.guard = none) (hd : dok n o.dst = true) (k : ∀ v w', K v w' → Reg P n ops Q rest (up L o.dst v) w') : Reg P n ops Q (o :: rest) L w := fun a ha => by
  refine wpList_plain hg fun K' hK' => ?_
  refine wp_dead (fun a' w' ⟨v, e, hk⟩ => hK' _ _ ?_) (h a ha)
  subst e
  exact k v w' hk _ (ha.put hd v)
theorem ry {v : Value} (h : Yd P n L o v w) (hg : o.guard = none) (hd : dok n o.dst = true) (k : Reg P n ops Q rest (up L o.dst v) w) : Reg P n ops Q (o :: rest) L w :=
  reg_op h.op hg hd fun u w' ⟨e1, e2⟩ => by subst e1; subst e2; exact k
theorem reg_nil (h : Fin n Q .normal L w) : Reg P n ops Q [] L w := fun a ha => wpList_nil (h a ha)
/-! guards -/
theorem guard_val {a : Act} {g d : Nat} {b : Bool} (ha : Rep n L a) (hgd : (ops[g]?).bind (·.dst) = some d) (hv : lk L d = some (.bool b)) : yielded ops a.tmps g = some b := by
  unfold yielded
  rw [hgd, Option.bind_some, ha.at_ d _ hv]
/-- the guard is met -/
theorem rg_on {g d : Nat} {b : Bool} {K : Value → World → Prop} (hg : o.guard = some (g, b)) (hgd : (ops[g]?).bind (·.dst) = some d) (hv : lk L d = some (.bool b)) (h : OpS P n L o w K) (hd : dok n o.dst = true)
    (k : ∀ v w', K v w' → Reg P n ops Q rest (up L o.dst v) w') : Reg P n ops Q (o :: rest) L w := fun a ha => by
  have hw : Region.wanted o (yielded ops a.tmps) = true := by
    unfold Region.wanted
    simp [hg, guard_val ha hgd hv]
  unfold wpList
  rw [if_pos hw]
  refine .inl (wp_dead (fun a' w' ⟨v, e, hk⟩ => ?_) (h a ha))
  subst e
  exact k v w' hk _ (ha.put hd v)
theorem rgy {g d : Nat} {b : Bool} {v : Value} (h : Yd P n L o v w) (hg : o.guard = some (g, b)) (hgd : (ops[g]?).bind (·.dst) = some d) (hv : lk L d = some (.bool b)) (hd : dok n o.dst = true)
    (k : Reg P n ops Q rest (up L o.dst v) w) : Reg P n ops Q (o :: rest) L w :=
  rg_on hg hgd hv h.op hd fun u w' ⟨e1, e2⟩ => by subst e1; subst e2; exact k
/-- the guard is not met -/
theorem rg_off {g d : Nat} {b c : Bool} (hg : o.guard = some (g, b)) (hgd : (ops[g]?).bind (·.dst) = some d) (hv : lk L d = some (.bool c)) (hbc : (c == b) = false) (hd : dok n o.dst = true)
    (k : Reg P n ops Q rest (up L o.dst undef) w) : Reg P n ops Q (o :: rest) L w := fun a ha => by
  have hw : ¬ Region.wanted o (yielded ops a.tmps) = true := by
    unfold Region.wanted
    simp only [hg, guard_val ha hgd hv]
    revert hbc
    cases b <;> cases c <;> simp
  unfold wpList
  rw [if_neg hw]
  exact k _ (ha.put hd undef)
theorem rep_know {a : Act} {d : Nat} {v : Value} (ha : Rep n L a) (hv : lk L d = some v) : Rep n ((d, v) :: L) a := by
  refine ⟨ha.size, ha.defers, fun t u hu => ?_⟩
  simp only [lk] at hu
  cases hb : Nat.beq d t
  · rw [hb] at hu; exact ha.at_ t u hu
  · rw [hb] at hu
    simp only [cond_true, Option.some.injEq] at hu
    have := Nat.eq_of_beq_eq_true hb
    subst this; subst hu
    exact ha.at_ _ _ hv
/-- a slot that holds a test is parted -/
theorem rg_split {d : Nat} {b : Bool} {l : List Oper} (hv : lk L d = some (.bool b)) (ht : b = true → Reg P n ops Q l ((d, .bool true) :: L) w) (hf : b = false → Reg P n ops Q l ((d, .bool false) :: L) w) : Reg P n ops Q l L w := fun a ha => by
  cases b
  · exact hf rfl a (rep_know ha hv)
  · exact ht rfl a (rep_know ha hv)
theorem rg_splitd {d : Nat} {p : Prop} [Decidable p] {l : List Oper} (hv : lk L d = some (.bool (decide p))) (ht : p → Reg P n ops Q l ((d, .bool true) :: L) w) (hf : ¬ p → Reg P n ops Q l ((d, .bool false) :: L) w) : Reg P n ops Q l L w :=
  rg_split hv (fun h => ht (of_decide_eq_true h)) (fun h => hf (of_decide_eq_false h))
end

/-! ### the code around the regions -/
section
variable {P : Program} {n : Nat} {Q : Exit → Act → World → Prop} {L : Fr} {w : World}
theorem cw_seq {x y : Code} (h : Cw P n (Exit.then (y.wp P Q) Q) x L w) : Cw P n Q (x.seq y) L w := fun a ha => wp_seq (h a ha)
theorem cw_reg {id : Nat} {l : List Oper} (h : Reg P n l.toArray Q l L w) : Cw P n Q (.region id l.toArray false) L w := fun a ha => wp_region_lit (h a ha)
theorem cw_skip (h : Fin n Q .normal L w) : Cw P n Q .skip L w := fun a ha => wp_skip (h a ha)
theorem cw_ret (h : Fin n Q .ret L w) : Cw P n Q .ret L w := fun a ha => wp_ret (h a ha)
theorem cw_exit {id : Nat} (h : Fin n Q (.exit id) L w) : Cw P n Q (.exit id) L w := fun a ha => wp_exit (h a ha)
theorem cw_block {id : Nat} {c : Code} (h : Cw P n (Exit.inBlock id Q) c L w) : Cw P n Q (.block id c) L w := fun a ha => wp_block (h a ha)
theorem cw_cond {c : Operand} {x y : Code} {b : Bool} (hc : ev L c = some (.bool b)) (ht : b = true → Cw P n Q x L w) (hf : b = false → Cw P n Q y L w) : Cw P n Q (.cond c x y) L w := fun a ha => by
  refine wp_cond (ha.ev hc) ?_
  cases b
  · exact hf rfl a ha
  · exact ht rfl a ha
theorem cw_condd {c : Operand} {x y : Code} {p : Prop} [Decidable p] (hc : ev L c = some (.bool (decide p))) (ht : p → Cw P n Q x L w) (hf : ¬ p → Cw P n Q y L w) : Cw P n Q (.cond c x y) L w :=
  cw_cond hc (fun h => ht (of_decide_eq_true h)) (fun h => hf (of_decide_eq_false h))
theorem cw_condt {c : Operand} {x y : Code} (hc : ev L c = some (.bool true)) (ht : Cw P n Q x L w) : Cw P n Q (.cond c x y) L w := cw_cond hc (fun _ => ht) (fun h => by cases h)
theorem cw_condf {c : Operand} {x y : Code} (hc : ev L c = some (.bool false)) (ht : Cw P n Q y L w) : Cw P n Q (.cond c x y) L w := cw_cond hc (fun h => by cases h) (fun _ => ht)
/-! where a way ends -/
theorem fn_next {y : Code} (h : Cw P n Q y L w) : Fin n (Exit.then (y.wp P Q) Q) .normal L w := h
theorem fn_then_ret {f : Act → World → Prop} (h : Fin n Q .ret L w) : Fin n (Exit.then f Q) .ret L w := h
theorem fn_then_exit {f : Act → World → Prop} {id : Nat} (h : Fin n Q (.exit id) L w) : Fin n (Exit.then f Q) (.exit id) L w := h
theorem fn_block {id : Nat} (h : Fin n Q .normal L w) : Fin n (Exit.inBlock id Q) .normal L w := h
theorem fn_block_ret {id : Nat} (h : Fin n Q .ret L w) : Fin n (Exit.inBlock id Q) .ret L w := h
theorem fn_block_exit {id : Nat} (h : Fin n Q .normal L w) : Fin n (Exit.inBlock id Q) (.exit id) L w := fun a ha => by
  show (if id = id then _ else _)
  rw [if_pos rfl]; exact h a ha
/-! a loop: M gives the slots that stand at each round's head, I what is known -/
/-! a loop by a relation on the slots that it writes (ds), the world and a measure -/
def hasN (ds : List Nat) (t : Nat) : Bool := ds.any (Nat.beq t)
def drp (ds : List Nat) : Fr → Fr
  | [] => []
  | (d, v) :: L => cond (hasN ds d) (drp ds L) ((d, v) :: drp ds L)
def keysIn (ds : List Nat) : Fr → Bool
  | [] => true
  | (d, _) :: L => hasN ds d && keysIn ds L
theorem drp_lk {ds : List Nat} : ∀ {L : Fr} {t : Nat} {v : Value}, lk (drp ds L) t = some v → hasN ds t = false ∧ lk L t = some v
  | [], _, _, h => by cases h
  | (d, u) :: L, t, v, h => by
    simp only [drp] at h
    cases hb : hasN ds d
    · rw [hb] at h
      simp only [cond_false, lk] at h ⊢
      cases hd : Nat.beq d t
      · rw [hd] at h; exact drp_lk (L := L) h
      · rw [hd] at h
        have := Nat.eq_of_beq_eq_true hd
        subst this
        exact ⟨hb, h⟩
    · rw [hb] at h
      simp only [cond_true] at h
      obtain ⟨h1, h2⟩ := drp_lk (L := L) h
      refine ⟨h1, ?_⟩
      simp only [lk]
      cases hd : Nat.beq d t
      · exact h2
      · have := Nat.eq_of_beq_eq_true hd
        subst this
        rw [h1] at hb; cases hb
theorem lk_drp {ds : List Nat} : ∀ {L : Fr} {t : Nat} {v : Value}, hasN ds t = false → lk L t = some v → lk (drp ds L) t = some v
  | [], _, _, _, h => by cases h
  | (d, u) :: L, t, v, hn, h => by
    simp only [lk] at h
    simp only [drp]
    cases hd : Nat.beq d t
    · rw [hd] at h
      cases hb : hasN ds d
      · simp only [cond_false, lk, hd]; exact lk_drp hn h
      · exact lk_drp hn h
    · rw [hd] at h
      have := Nat.eq_of_beq_eq_true hd
      subst this
      rw [hn]
      simp only [cond_false, lk, hd]; exact h
theorem lk_app {ds : List Nat} : ∀ {M N : Fr} {t : Nat}, keysIn ds M = true → hasN ds t = false → lk (M ++ N) t = lk N t
  | [], _, _, _, _ => rfl
  | (d, u) :: M, N, t, hk, hn => by
    simp only [keysIn, Bool.and_eq_true] at hk
    simp only [List.cons_append, lk]
    cases hd : Nat.beq d t
    · exact lk_app hk.2 hn
    · have := Nat.eq_of_beq_eq_true hd
      subst this
      rw [hn] at hk; cases hk.1
theorem lk_app_or : ∀ {M N : Fr} {t : Nat} {v : Value}, lk (M ++ N) t = some v → lk M t = some v ∨ lk N t = some v
  | [], _, _, _, h => .inr h
  | (d, u) :: M, N, t, v, h => by
    simp only [List.cons_append, lk] at h ⊢
    cases hd : Nat.beq d t
    · rw [hd] at h; exact lk_app_or h
    · rw [hd] at h; exact .inl h
/-- L knows of all slots that are not in ds what B knows -/
def Kp (ds : List Nat) (L B : Fr) : Prop := ∀ t u, hasN ds t = false → lk B t = some u → lk L t = some u
theorem kp_refl {ds : List Nat} {B : Fr} : Kp ds B B := fun _ _ _ h => h
theorem kp_cons {ds : List Nat} {B L : Fr} {d : Nat} {v : Value} (hd : hasN ds d = true) (h : Kp ds L B) : Kp ds ((d, v) :: L) B := fun t u hn hu => by
  simp only [lk]
  cases hb : Nat.beq d t
  · exact h t u hn hu
  · have := Nat.eq_of_beq_eq_true hb
    subst this
    rw [hn] at hd; cases hd
theorem kp_app {ds es : List Nat} {B L M : Fr} (hM : keysIn ds M = true) (he : es.all (hasN ds) = true) (h : Kp ds L B) : Kp ds (M ++ drp es L) B := fun t u hn hu => by
  rw [lk_app hM hn]
  refine lk_drp ?_ (h t u hn hu)
  cases hb : hasN es t
  · rfl
  · unfold hasN at hb
    obtain ⟨x, hx, hxt⟩ := List.any_eq_true.1 hb
    have := Nat.eq_of_beq_eq_true hxt
    subst this
    have h1 := List.all_eq_true.1 he t hx
    rw [hn] at h1; cases h1
theorem cw_loopJ {c : Code} (ds : List Nat) (J : Fr → World → Nat → Prop) {M0 : Fr} {m0 : Nat} (h0 : J M0 w m0) (hM : sub L M0)
    (round : ∀ M w m, J M w m → Cw P n (Exit.then (fun a' w' => ∃ M' m', Rep n (M' ++ drp ds L) a' ∧ J M' w' m' ∧ m' < m) Q) c (M ++ drp ds L) w) : Cw P n Q (.loop c) L w := fun a ha => by
  refine wp_loop_ghost (fun k a w => ∃ M, Rep n (M ++ drp ds L) a ∧ J M w k) m0 ⟨M0, ⟨ha.size, ha.defers, fun t v h => ?_⟩, h0⟩ ?_
  · rcases lk_app_or h with h1 | h1
    · exact ha.at_ t v (sub_lk hM t v h1)
    · exact ha.at_ t v (drp_lk h1).2
  intro k a w ⟨M, hr, hJ⟩
  refine wp_mono (round M w k hJ a hr) ?_
  intro e a' w' hq
  cases e with
  | normal =>
    obtain ⟨M', m', h1, h2, h3⟩ := hq
    exact ⟨m', h3, M', h1, h2⟩
  | exit id => exact hq
  | goto l => exact hq
  | ret => exact hq
  | panic ch => exact hq
  | outgrown => exact hq
theorem fn_roundJ {ds : List Nat} {J : Fr → World → Nat → Prop} {L0 M M' : Fr} {m m' : Nat} (hJ : J M' w m') (hM : sub L M') (hlt : m' < m) (hk : Kp ds L (M ++ drp ds L0)) (hin : keysIn ds M = true) :
    Fin n (Exit.then (fun a' w' => ∃ M' m', Rep n (M' ++ drp ds L0) a' ∧ J M' w' m' ∧ m' < m) Q) .normal L w := fun a ha =>
  ⟨M', m', ⟨ha.size, ha.defers, fun t v h => by
    rcases lk_app_or h with h1 | h1
    · exact ha.at_ t v (sub_lk hM t v h1)
    · refine ha.at_ t v (hk t v (drp_lk h1).1 ?_)
      rw [lk_app hin (drp_lk h1).1]; exact h1⟩, hJ, hlt⟩
/-! where a call begins and where it ends -/
def ini : Nat → List Value → Fr
  | _, [] => []
  | k, v :: l => (k, v) :: ini (k + 1) l
theorem ini_lk : ∀ (l : List Value) (k t : Nat) (v : Value), lk (ini k l) t = some v → k ≤ t ∧ l[t - k]? = some v
  | [], _, _, _, h => by cases h
  | u :: l, k, t, v, h => by
    simp only [ini, lk] at h
    cases hb : Nat.beq k t
    · rw [hb] at h
      obtain ⟨h1, h2⟩ := ini_lk l (k + 1) t v h
      refine ⟨by omega, ?_⟩
      obtain ⟨m, hm⟩ : ∃ m, t - k = m + 1 := ⟨t - (k + 1), by omega⟩
      have : t - (k + 1) = m := by omega
      rw [this] at h2
      rw [hm]; simpa using h2
    · rw [hb] at h
      simp only [cond_true, Option.some.injEq] at h
      have := Nat.eq_of_beq_eq_true hb
      subst this; subst h
      simp
theorem cw_enter {f : FuncId} {fn : Func} {c : Code} {args : List Value} {R : Ending → World → Prop} (hf : P.funcs[f]? = some fn) (hb : fn.body = some c) (hn : fn.ntmps = n) (hle : Nat.ble args.length n = true)
    (h : Cw P n (bodyPost P fn R) c (ini 0 args) w) : Calls P f args.toArray w R := by
  refine calls_of_wp hf hb (h _ ?_)
  subst hn
  have hle' : args.length ≤ fn.ntmps := Nat.le_of_ble_eq_true hle
  refine ⟨by simp; omega, rfl, fun t v e => ?_⟩
  obtain ⟨_, h2⟩ := ini_lk args 0 t v e
  rw [Nat.sub_zero] at h2
  have : t < args.length := by
    rcases Nat.lt_or_ge t args.length with h | h
    · exact h
    · rw [List.getElem?_eq_none h] at h2; cases h2
  rw [Array.getElem?_append_left (by simpa using this)]
  simpa using h2
def Ret (P : Program) (f : FuncId) (args : List Value) (w : World) (R : Value → World → Prop) : Prop := Calls P f args.toArray w (fun e w' => ∃ v, e = .returned v ∧ R v w')
theorem Ret.mono {f : FuncId} {args : List Value} {R R' : Value → World → Prop} (h : Ret P f args w R) (hR : ∀ v w', R v w' → R' v w') : Ret P f args w R' :=
  Calls.mono h fun _ _ ⟨v, e, hv⟩ => ⟨v, e, hR _ _ hv⟩
theorem ret_enter {f : FuncId} {fn : Func} {c : Code} {args : List Value} {R : Value → World → Prop} (hf : P.funcs[f]? = some fn) (hb : fn.body = some c) (hn : fn.ntmps = n) (hle : Nat.ble args.length n = true)
    (h : Cw P n (bodyPost P fn (fun e w' => ∃ v, e = .returned v ∧ R v w')) c (ini 0 args) w) : Ret P f args w R := cw_enter hf hb hn hle h
/-- what a result's variable holds in the end -/
def ResAt (P : Program) (L : Fr) (w : World) : ResultVar → Value → Prop
  | .tmp t, v => lk L t = some v
  | .cell p ty, v => ∃ ad, lk L p = some (.pointer (some ad)) ∧ (loadVar ty ad).run P w = .ok v w
def ResL (P : Program) (L : Fr) (w : World) : List ResultVar → List Value → Prop
  | [], [] => True
  | r :: rs, v :: vs => ResAt P L w r v ∧ ResL P L w rs vs
  | _, _ => False
theorem mapM_run {g : ResultVar → Sem Value} (hg : ∀ r v, ResAt P L w r v → (g r).run P w = .ok v w) : ∀ (rs : List ResultVar) (vs : List Value), ResL P L w rs vs → (rs.mapM g).run P w = .ok vs w
  | [], [], _ => by simp
  | r :: rs, v :: vs, ⟨h1, h2⟩ => by
    have ih := mapM_run hg rs vs h2
    rw [List.mapM_cons]
    simp only [Sem.run_bind, Sem.run_pure, hg r v h1, Result.andThen_ok, ih]
theorem res_one {g : ResultVar → Sem Value} {rs : Array ResultVar} {vs : List Value} (hg : ∀ r v, ResAt P L w r v → (g r).run P w = .ok v w) (h : ResL P L w rs.toList vs) {f : Array Value → Value} : (do let vs ← rs.mapM g; pure (f vs) : Sem Value).run P w = .ok (f vs.toArray) w := by
  rw [Array.mapM_eq_mapM_toList]
  simp only [Sem.run_bind, Sem.run_map, mapM_run hg _ _ h, Result.andThen_ok, Sem.run_pure]
theorem res_all {fn : Func} {a : Act} {vs : List Value} (ha : Rep n L a) (h : ResL P L w fn.results.toList vs) : (results fn a.tmps).run P w = .ok (if h : vs.toArray.size = 1 then vs.toArray[0] else .tuple vs.toArray) w := by
  unfold results
  refine res_one (L := L) (f := fun vs => if h : vs.size = 1 then vs[0] else .tuple vs) (fun r v hr => ?_) h
  cases r with
  | tmp t =>
    have e : a.tmps[t]? = some v := ha.at_ t v hr
    simp [e]
  | cell p ty =>
    obtain ⟨ad, h3, h4⟩ := hr
    have e : a.tmps[p]? = some (.pointer (some ad)) := ha.at_ p _ h3
    simp [e, asAddr, h4]
theorem fn_ret1 {fn : Func} {R : Value → World → Prop} {r : ResultVar} {v : Value} (hr : fn.results = #[r]) (hv : ResAt P L w r v) (h : R v w) : Fin n (bodyPost P fn (fun e w' => ∃ v, e = .returned v ∧ R v w')) .ret L w :=
  fun a ha => ⟨ha.defers, v, by rw [res_all (vs := [v]) ha (by rw [hr]; exact ⟨hv, trivial⟩)]; rfl, v, rfl, h⟩
theorem fn_retn {fn : Func} {R : Value → World → Prop} {rs : List ResultVar} {vs : List Value} (hr : fn.results = rs.toArray) (hv : ResL P L w rs vs) (h1 : (vs.length == 1) = false) (h : R (.tuple vs.toArray) w) :
    Fin n (bodyPost P fn (fun e w' => ∃ v, e = .returned v ∧ R v w')) .ret L w :=
  fun a ha => ⟨ha.defers, _, by rw [res_all (vs := vs) ha (by rw [hr]; exact hv), dif_neg (by simpa using h1)], _, rfl, h⟩
theorem fn_normal {fn : Func} {R : Ending → World → Prop} (h : Fin n (bodyPost P fn R) .ret L w) : Fin n (bodyPost P fn R) .normal L w := h
end
end Go.Proofs.YtbnjbgcadkdljaaGreatDoor

namespace Go.Proofs.YtbnjbgcadkdljaaGreatDoor
open Go Go.RowKit

section
variable {P : Program} {n : Nat} {L : Fr} {o : Oper} {w : World}
theorem y_mov {x : Operand} {v : Value} (ho : o.op = .move x) (hx : ev L x = some v) : Yd P n L o v w := fun a ha => by
  unfold execOp; simp only [ho, ha.ev hx]; rfl
theorem y_asg {x : Operand} {v : Value} (ho : o.op = .assign x) (hx : ev L x = some v) : Yd P n L o v w := fun a ha => by
  unfold execOp; simp only [ho, ha.ev hx]; rfl
theorem y_pick {c x y : Operand} {b : Bool} {v : Value} (ho : o.op = .pick c x y) (hc : ev L c = some (.bool b)) (hv : ev L (if b then x else y) = some v) : Yd P n L o v w := fun a ha => by
  have h1 := ha.ev hv
  unfold execOp; simp only [ho, ha.ev hc]
  cases b
  · simp only [Bool.false_eq_true, if_false] at h1
    simp [asBool, h1]
  · simp only [if_true] at h1
    simp [asBool, h1]
theorem eqGuard_int {op : BinOp} {t : TypeId} {x y : Operand} {k k' : IntKind} {a b : Int} : (eqGuard op t x y (.int k a) (.int k' b)).run P w = .ok () w := by
  cases op <;> rfl
theorem bin_int {op : BinOp} {t t' : TypeId} {x y : Operand} {k k' : IntKind} {p q : Int} {v : Value} (ho : o.op = .binOp op t x y t') (hx : ev L x = some (.int k p)) (hy : ev L y = some (.int k' q))
    (h : (binOp op t (.int k p) (.int k' q)).run P w = .ok v w) : Yd P n L o v w := fun a ha => by
  unfold execOp
  simp only [ho, ha.ev hx, ha.ev hy, Sem.run_bind, eqGuard_int, Result.andThen_ok, h, Sem.run_pure]
theorem y_add {t t' : TypeId} {x y : Operand} {k : IntKind} {p q c : Int} (ho : o.op = .binOp .add t x y t') (hx : ev L x = some (.int k p)) (hy : ev L y = some (.int k q)) (hc : k.wrap (p + q) = c) : Yd P n L o (.int k c) w := by
  subst hc; exact bin_int ho hx hy (by simp [binOp, Op.intArith])
theorem y_sub {t t' : TypeId} {x y : Operand} {k : IntKind} {p q c : Int} (ho : o.op = .binOp .sub t x y t') (hx : ev L x = some (.int k p)) (hy : ev L y = some (.int k q)) (hc : k.wrap (p - q) = c) : Yd P n L o (.int k c) w := by
  subst hc; exact bin_int ho hx hy (by simp [binOp, Op.intArith])
theorem y_mul {t t' : TypeId} {x y : Operand} {k : IntKind} {p q c : Int} (ho : o.op = .binOp .mul t x y t') (hx : ev L x = some (.int k p)) (hy : ev L y = some (.int k q)) (hc : k.wrap (p * q) = c) : Yd P n L o (.int k c) w := by
  subst hc; exact bin_int ho hx hy (by simp [binOp, Op.intArith])
theorem y_quo {t t' : TypeId} {x y : Operand} {k : IntKind} {p q c : Int} (ho : o.op = .binOp .quo t x y t') (hx : ev L x = some (.int k p)) (hy : ev L y = some (.int k q)) (hq : q ≠ 0) (hc : k.wrap (p.tdiv q) = c) : Yd P n L o (.int k c) w := by
  subst hc; exact bin_int ho hx hy (by simp [binOp, Op.intDiv, hq])
theorem y_rem {t t' : TypeId} {x y : Operand} {k : IntKind} {p q c : Int} (ho : o.op = .binOp .rem t x y t') (hx : ev L x = some (.int k p)) (hy : ev L y = some (.int k q)) (hq : q ≠ 0) (hc : p.tmod q = c) : Yd P n L o (.int k c) w := by
  subst hc; exact bin_int ho hx hy (by simp [binOp, Op.intDiv, hq])
theorem y_shl {t t' : TypeId} {x y : Operand} {k k' : IntKind} {p q c : Int} (ho : o.op = .binOp .shl t x y t') (hx : ev L x = some (.int k p)) (hy : ev L y = some (.int k' q)) (hq : 0 ≤ q) (hc : k.wrap (p * 2 ^ (min q.toNat k.bits)) = c) : Yd P n L o (.int k c) w := by
  subst hc; exact bin_int ho hx hy (by simp [binOp, Op.shift, Int.not_lt.2 hq])
theorem y_shr {t t' : TypeId} {x y : Operand} {k k' : IntKind} {p q c : Int} (ho : o.op = .binOp .shr t x y t') (hx : ev L x = some (.int k p)) (hy : ev L y = some (.int k' q)) (hq : 0 ≤ q) (hc : p.fdiv (2 ^ (min q.toNat k.bits)) = c) : Yd P n L o (.int k c) w := by
  subst hc; exact bin_int ho hx hy (by simp [binOp, Op.shift, Int.not_lt.2 hq])
theorem y_and {t t' : TypeId} {x y : Operand} {k : IntKind} {p q c : Int} (ho : o.op = .binOp .and t x y t') (hx : ev L x = some (.int k p)) (hy : ev L y = some (.int k q)) (hc : k.wrap (BitVec.ofInt k.bits p &&& BitVec.ofInt k.bits q).toNat = c) : Yd P n L o (.int k c) w := by
  subst hc; exact bin_int ho hx hy (by simp [binOp, Op.intBits])
theorem y_or {t t' : TypeId} {x y : Operand} {k : IntKind} {p q c : Int} (ho : o.op = .binOp .or t x y t') (hx : ev L x = some (.int k p)) (hy : ev L y = some (.int k q)) (hc : k.wrap (BitVec.ofInt k.bits p ||| BitVec.ofInt k.bits q).toNat = c) : Yd P n L o (.int k c) w := by
  subst hc; exact bin_int ho hx hy (by simp [binOp, Op.intBits])
theorem y_xor {t t' : TypeId} {x y : Operand} {k : IntKind} {p q c : Int} (ho : o.op = .binOp .xor t x y t') (hx : ev L x = some (.int k p)) (hy : ev L y = some (.int k q)) (hc : k.wrap (BitVec.ofInt k.bits p ^^^ BitVec.ofInt k.bits q).toNat = c) : Yd P n L o (.int k c) w := by
  subst hc; exact bin_int ho hx hy (by simp [binOp, Op.intBits])
theorem beq_dec {p q : Int} : (p == q) = decide (p = q) := by by_cases h : p = q <;> simp [h]
theorem y_eql {t t' : TypeId} {x y : Operand} {k : IntKind} {p q : Int} (ho : o.op = .binOp .eql t x y t') (hx : ev L x = some (.int k p)) (hy : ev L y = some (.int k q)) : Yd P n L o (.bool (decide (p = q))) w :=
  bin_int ho hx hy (by simp [binOp, Op.intCmp, beq_dec])
theorem y_neq {t t' : TypeId} {x y : Operand} {k : IntKind} {p q : Int} (ho : o.op = .binOp .neq t x y t') (hx : ev L x = some (.int k p)) (hy : ev L y = some (.int k q)) : Yd P n L o (.bool (decide (¬ p = q))) w :=
  bin_int ho hx hy (by simp [binOp, Op.intCmp, bne, beq_dec])
theorem y_lss {t t' : TypeId} {x y : Operand} {k : IntKind} {p q : Int} (ho : o.op = .binOp .lss t x y t') (hx : ev L x = some (.int k p)) (hy : ev L y = some (.int k q)) : Yd P n L o (.bool (decide (p < q))) w :=
  bin_int ho hx hy (by simp [binOp, Op.intCmp])
theorem y_leq {t t' : TypeId} {x y : Operand} {k : IntKind} {p q : Int} (ho : o.op = .binOp .leq t x y t') (hx : ev L x = some (.int k p)) (hy : ev L y = some (.int k q)) : Yd P n L o (.bool (decide (p ≤ q))) w :=
  bin_int ho hx hy (by simp [binOp, Op.intCmp])
theorem y_gtr {t t' : TypeId} {x y : Operand} {k : IntKind} {p q : Int} (ho : o.op = .binOp .gtr t x y t') (hx : ev L x = some (.int k p)) (hy : ev L y = some (.int k q)) : Yd P n L o (.bool (decide (p > q))) w :=
  bin_int ho hx hy (by simp [binOp, Op.intCmp])
theorem y_geq {t t' : TypeId} {x y : Operand} {k : IntKind} {p q : Int} (ho : o.op = .binOp .geq t x y t') (hx : ev L x = some (.int k p)) (hy : ev L y = some (.int k q)) : Yd P n L o (.bool (decide (p ≥ q))) w :=
  bin_int ho hx hy (by simp [binOp, Op.intCmp])
theorem y_not {t : TypeId} {x : Operand} {b : Bool} (ho : o.op = .unOp .not t x) (hx : ev L x = some (.bool b)) : Yd P n L o (.bool (!b)) w := fun a ha => by
  unfold execOp; simp only [ho, ha.ev hx, Op.unary, Sem.run_bind, Sem.run_pure, Result.andThen_ok]
theorem y_notd {t : TypeId} {x : Operand} {p : Prop} [Decidable p] (ho : o.op = .unOp .not t x) (hx : ev L x = some (.bool (decide p))) : Yd P n L o (.bool (decide (¬ p))) w := by
  have := y_not (P := P) (n := n) (w := w) ho hx
  rwa [← decide_not] at this
theorem y_neg {t : TypeId} {x : Operand} {k : IntKind} {p c : Int} (ho : o.op = .unOp .neg t x) (hx : ev L x = some (.int k p)) (hc : k.wrap (0 - p) = c) : Yd P n L o (.int k c) w := fun a ha => by
  subst hc
  unfold execOp; simp only [ho, ha.ev hx, Op.unary, Op.intArith, Sem.run_bind, Sem.run_pure, Result.andThen_ok]
theorem y_conv {s d : TypeId} {x : Operand} {k k' : IntKind} {ds : TypeDesc} {p c : Int} (ho : o.op = .convert s d x) (hs : P.underlying s = some ds) (hd : P.underlying d = some (.int k')) (hx : ev L x = some (.int k p)) (hc : k'.wrap p = c) : Yd P n L o (.int k' c) w := fun a ha => by
  subst hc
  unfold execOp
  simp only [ho, ha.ev hx, convert, Sem.run_bind, run_underlying hs w, run_underlying hd w, Result.andThen_ok, Conv.intToInt, Sem.run_pure]
theorem y_ext {x : Operand} {i : Nat} {vs : Array Value} {v : Value} (ho : o.op = .extract x i) (hx : ev L x = some (.tuple vs)) (hv : vs[i]? = some v) : Yd P n L o v w := fun a ha => by
  unfold execOp; simp only [ho, ha.ev hx, Instr.extract, hv, Sem.run_bind, Sem.run_pure, Result.andThen_ok]
/-- an address whose nil check passes -/
theorem y_nilck {x : Operand} {ad : Addr} (ho : o.op = .nilCheck x) (hx : ev L x = some (.pointer (some ad))) : Yd P n L o (.pointer (some ad)) w := fun a ha => by
  unfold execOp; simp only [ho, ha.ev hx, Sem.run_pure]
/-! builtins -/
def evl (L : Fr) : List Operand → List Value → Prop
  | [], [] => True
  | x :: xs, v :: vs => ev L x = some v ∧ evl L xs vs
  | _, _ => False
theorem evl_map {a : Act} (ha : Rep n L a) : ∀ {xs : List Operand} {vs : List Value}, evl L xs vs → xs.map a.eval = vs
  | [], [], _ => rfl
  | x :: xs, v :: vs, ⟨h1, h2⟩ => by rw [List.map_cons, ha.ev h1, evl_map ha h2]
  | [], _ :: _, h => h.elim
  | _ :: _, [], h => h.elim
theorem y_builtin {b : Builtin} {xs : List Operand} {ts : Array TypeId} {vs : List Value} {v : Value} (ho : o.op = .call { callee := .builtin b, args := xs.toArray, argTypes := ts }) (hx : evl L xs vs)
    (h : ∀ cs, (builtin b ts o.type cs vs.toArray).run P w = .ok (.value v) w) : Yd P n L o v w := fun a ha => by
  unfold execOp
  simp only [ho, resolve, List.map_toArray, evl_map ha hx, Sem.run_bind, Sem.run_pure, Result.andThen_ok, invoke, h]
theorem y_len {t e : TypeId} {x : Operand} {A : Option Addr} {m c : Nat} (ho : o.op = .call { callee := .builtin .len, args := #[x], argTypes := #[t] }) (ht : P.underlying t = some (.slice e)) (hx : ev L x = some (.slice A m c)) : Yd P n L o (.int .i64 (m : Int)) w :=
  y_builtin (xs := [x]) (vs := [.slice A m c]) ho ⟨hx, trivial⟩ fun cs => by simp [builtin, Builtin.len_, run_underlying ht w, goInt]
theorem y_cap {t e : TypeId} {x : Operand} {A : Option Addr} {m c : Nat} (ho : o.op = .call { callee := .builtin .cap, args := #[x], argTypes := #[t] }) (ht : P.underlying t = some (.slice e)) (hx : ev L x = some (.slice A m c)) : Yd P n L o (.int .i64 (c : Int)) w :=
  y_builtin (xs := [x]) (vs := [.slice A m c]) ho ⟨hx, trivial⟩ fun cs => by simp [builtin, Builtin.cap_, run_underlying ht w, goInt]
end

/-! bounds -/
theorem wi {e : Int} (h : -9223372036854775808 ≤ e ∧ e ≤ 9223372036854775807) : IntKind.i64.wrap e = e := IntWalk.i64_in _ h
theorem wu {k : IntKind} {e m : Int} (hk : k.signed = false) (hm : (2 ^ k.bits : Int) = m) (h : 0 ≤ e ∧ e < m) : k.wrap e = e := by
  unfold IntKind.wrap
  rw [hk, hm]
  simp only [Bool.false_and, Bool.false_eq_true, if_false]
  exact Int.emod_eq_of_lt h.1 h.2
theorem wu64 {e : Int} (h : 0 ≤ e ∧ e < 18446744073709551616) : IntKind.u64.wrap e = e := wu rfl (by decide) h
theorem wu8 {e : Int} (h : 0 ≤ e ∧ e < 256) : IntKind.u8.wrap e = e := wu rfl (by decide) h
theorem wu32 {e : Int} (h : 0 ≤ e ∧ e < 4294967296) : IntKind.u32.wrap e = e := wu rfl (by decide) h
theorem wi32 {e : Int} (h : -2147483648 ≤ e ∧ e < 2147483648) : IntKind.i32.wrap e = e := by
  unfold IntKind.wrap
  have h1 : (2 ^ IntKind.i32.bits : Int) = 4294967296 := by decide
  have h2 : (2 ^ (IntKind.i32.bits - 1) : Int) = 2147483648 := by decide
  have h3 : IntKind.i32.signed = true := rfl
  rw [h1, h2, h3]
  simp only [Bool.true_and, decide_eq_true_eq]
  split <;> omega
theorem tmn {p q c : Int} (hp : 0 ≤ p) (hc : p % q = c) : p.tmod q = c := by rw [Int.tmod_eq_emod_of_nonneg hp]; exact hc
end Go.Proofs.YtbnjbgcadkdljaaGreatDoor

namespace Go.Proofs.YtbnjbgcadkdljaaGreatDoor
open Go Go.RowKit

/-- the memory at A reads as these cells -/
def Rd (w : World) (A : Option Addr) (xs : List Value) : Prop := ∀ j u, xs[j]? = some u → ∃ b off, A = some ⟨b, off, none⟩ ∧ b < w.heap.size ∧ w.cell? ⟨b, off + j, none⟩ = some u
theorem Rd.below {w w' : World} {A : Option Addr} {xs : List Value} (h : Rd w A xs) (hb : Below w.heap.size w w') : Rd w' A xs := fun j u hu => by
  obtain ⟨b, off, e, hlt, hc⟩ := h j u hu
  exact ⟨b, off, e, Nat.lt_of_lt_of_le hlt hb.size, (hb.cell (p := ⟨b, off + j, none⟩) hlt).trans hc⟩
def Blk (w : World) (b : Nat) (cs : List Value) (T : TypeId) : Prop := w.heap[b]? = some (.cells cs.toArray T (0, 0))
theorem Blk.cell {w : World} {b : Nat} {cs : List Value} {T : TypeId} (h : Blk w b cs T) {j : Nat} {v : Value} (hj : cs[j]? = some v) : w.cell? ⟨b, j, none⟩ = some v := by
  rw [cell_of_row w b j _ T _ h]; simpa using hj
theorem Blk.lt {w : World} {b : Nat} {cs : List Value} {T : TypeId} (h : Blk w b cs T) : b < w.heap.size := by
  rcases Nat.lt_or_ge b w.heap.size with hlt | hge
  · exact hlt
  · unfold Blk at h; rw [Array.getElem?_eq_none hge] at h; cases h
theorem Blk.rd {w : World} {b : Nat} {cs : List Value} {T : TypeId} (h : Blk w b cs T) : Rd w (some ⟨b, 0, none⟩) cs := fun j u hu => ⟨b, 0, rfl, h.lt, by rw [Nat.zero_add]; exact h.cell hu⟩

/-- memory of several blocks, seen as one thing -/
structure Ab where
  ok : Nat → World → Prop
  has : Nat → Prop
  lt : ∀ B w, ok B w → ∀ k, has k → B ≤ k ∧ k < w.heap.size
  keep : ∀ B w w' row, ok B w → w.grownBy w' row → (∀ k, has k → row ≠ some k) → ok B w'
  mono : ∀ B B' w, ok B w → B' ≤ B → ok B' w
/-- an object of the call's own: a block known whole; a slice; a block that is only read; several -/
inductive Ob where
  | blk (b : Nat) (cs : List Value) (T : TypeId)
  | row (A : Option Addr) (n cap : Nat) (xs : List Value) (e : TypeId) (size : Nat)
  | ro (b : Nat) (xs : List Value)
  | abs (A : Ab)
def Ob.block : Ob → Option Nat
  | .blk b _ _ => some b
  | .row A _ cap _ _ _ => if cap = 0 then none else A.map (·.block)
  | .ro b _ => some b
  | .abs _ => none
def Ob.has : Ob → Nat → Prop
  | .blk b cs T, k => Ob.block (.blk b cs T) = some k
  | .row A n cap xs e size, k => Ob.block (.row A n cap xs e size) = some k
  | .ro b xs, k => Ob.block (.ro b xs) = some k
  | .abs A, k => A.has k
theorem Ob.has_block {o : Ob} {k : Nat} (h : o.block = some k) : o.has k := by
  cases o with
  | abs A => cases h
  | _ => exact h
/-- a slice of the call's own: its first n elements are known, its capacity lies in one block -/
def Own (B : Nat) (w : World) (A : Option Addr) (n cap : Nat) (xs : List Value) (e : TypeId) (size : Nat) : Prop :=
  xs.length = n * size ∧ n ≤ cap ∧ cap ≤ maxLen ∧ (cap = 0 ∨ ∃ g cur, A = some ⟨g, 0, none⟩ ∧ B ≤ g ∧ w.heap[g]? = some (.cells cur e (0, 0)) ∧ cap * size ≤ cur.size ∧ cur.toList.take (n * size) = xs)
/-- a block that is only read from now on -/
def Ro (B : Nat) (w : World) (b : Nat) (xs : List Value) : Prop := B ≤ b ∧ ∃ cur T fr, w.heap[b]? = some (.cells cur T fr) ∧ cur.toList.take xs.length = xs
def Ob.ok (B : Nat) (w : World) : Ob → Prop
  | .blk b cs T => B ≤ b ∧ Blk w b cs T
  | .row A n cap xs e size => Own B w A n cap xs e size
  | .ro b xs => Ro B w b xs
  | .abs A => A.ok B w
def Ob.apart (x y : Ob) : Prop := ∀ k, x.has k → ¬ y.has k
theorem heap_lt {w : World} {g : Nat} {o : Obj} (h : w.heap[g]? = some o) : g < w.heap.size := by
  rcases Nat.lt_or_ge g w.heap.size with hlt | hge
  · exact hlt
  · rw [Array.getElem?_eq_none hge] at h; cases h
theorem own_of {B : Nat} {w : World} {A : Option Addr} {n cap : Nat} {xs : List Value} {e : TypeId} {size : Nat} (h : w.ownsRow B e size (.slice A n cap) n xs) : Own B w A n cap xs e size := by
  obtain ⟨h1, ⟨hv, hn⟩ | ⟨g, cap', cur, hv, hg, hh, hc, hm, hs, ht⟩⟩ := h
  · cases hv; exact ⟨h1, Nat.le_refl _, Nat.zero_le _, .inl rfl⟩
  · cases hv; exact ⟨h1, hc, hm, .inr ⟨g, cur, rfl, hg, hh, by omega, ht⟩⟩
theorem Ob.lt {B : Nat} {w : World} {o : Ob} (h : o.ok B w) : ∀ k, o.has k → B ≤ k ∧ k < w.heap.size := by
  cases o with
  | abs A => exact A.lt B w h
  | blk b cs T => intro k hk; cases hk; exact ⟨h.1, h.2.lt⟩
  | row A n cap xs e size =>
    intro k hk
    obtain ⟨_, _, _, h0 | ⟨g, cur, hA, hg, hh, _⟩⟩ := h
    · simp only [Ob.has, Ob.block, h0, if_true] at hk; cases hk
    · simp only [Ob.has, Ob.block] at hk
      split at hk
      · cases hk
      · subst hA; cases hk; exact ⟨hg, heap_lt hh⟩
  | ro b xs => intro k hk; cases hk; obtain ⟨h1, _, _, _, h2, _⟩ := h; exact ⟨h1, heap_lt h2⟩
/-- what is not the written block's stays -/
theorem Ob.keep {B : Nat} {w w' : World} {o : Ob} {row : Option Nat} (h : o.ok B w) (hg : w.grownBy w' row) (hne : ∀ k, o.has k → row ≠ some k) : o.ok B w' := by
  cases o with
  | abs A => exact A.keep B w w' row h hg hne
  | blk b cs T => exact ⟨h.1, (hg.block b h.2.lt (fun e => hne b rfl e.symm)).trans h.2⟩
  | row A n cap xs e size =>
    obtain ⟨h1, h2, h3, h0 | ⟨g, cur, hA, hB, hh, r⟩⟩ := h
    · exact ⟨h1, h2, h3, .inl h0⟩
    · by_cases hc : cap = 0
      · exact ⟨h1, h2, h3, .inl hc⟩
      · refine ⟨h1, h2, h3, .inr ⟨g, cur, hA, hB, (hg.block g (heap_lt hh) (fun e => hne g ?_ e.symm)).trans hh, r⟩⟩
        simp only [Ob.has, Ob.block, if_neg hc, hA, Option.map_some]
  | ro b xs =>
    obtain ⟨h1, cur, T, fr, h2, h3⟩ := h
    exact ⟨h1, cur, T, fr, (hg.block b (heap_lt h2) (fun e => hne b rfl e.symm)).trans h2, h3⟩
theorem Ob.mono {B B' : Nat} {w : World} {o : Ob} (h : o.ok B w) (hb : B' ≤ B) : o.ok B' w := by
  cases o with
  | abs A => exact A.mono B B' w h hb
  | blk b cs T => exact ⟨Nat.le_trans hb h.1, h.2⟩
  | row A n cap xs e size =>
    obtain ⟨h1, h2, h3, h0 | ⟨g, cur, hA, hB, r⟩⟩ := h
    · exact ⟨h1, h2, h3, .inl h0⟩
    · exact ⟨h1, h2, h3, .inr ⟨g, cur, hA, Nat.le_trans hb hB, r⟩⟩
  | ro b xs => exact ⟨Nat.le_trans hb h.1, h.2⟩

structure HS (w0 w : World) (l : List Ob) : Prop where
  base : Below w0.heap.size w0 w
  own : ∀ o ∈ l, o.ok w0.heap.size w
  apart : l.Pairwise Ob.apart
theorem apart_symm {x y : Ob} (h : x.apart y) : y.apart x := fun k hk hx => h k hx hk
section
variable {w0 w w' : World} {l : List Ob}
theorem HS.start (w : World) : HS w w [] := ⟨Below.refl _ _, (fun o h => by cases h), List.Pairwise.nil⟩
theorem HS.at_ {i : Nat} {o : Ob} (h : HS w0 w l) (hi : l[i]? = some o) : o.ok w0.heap.size w := h.own o (List.mem_of_getElem? hi)
theorem HS.cell {i b : Nat} {cs : List Value} {T : TypeId} {j : Nat} {v : Value} (h : HS w0 w l) (hi : l[i]? = some (.blk b cs T)) (hj : cs[j]? = some v) : w.cell? ⟨b, j, none⟩ = some v := (h.at_ hi).2.cell hj
theorem Own.rd {B : Nat} {A : Option Addr} {n cap : Nat} {xs : List Value} {e : TypeId} {size : Nat} (h : Own B w A n cap xs e size) : Rd w A xs := by
  obtain ⟨h1, h2, h3, h0 | ⟨g, cur, hA, hB, hh, hs, ht⟩⟩ := h
  · intro j u hu
    have : xs = [] := List.length_eq_zero_iff.1 (by rw [h1]; have : n = 0 := by omega
                                                    rw [this]; simp)
    subst this; simp at hu
  · intro j u hu
    refine ⟨g, 0, hA, heap_lt hh, ?_⟩
    rw [Nat.zero_add, cell_of_row w g j _ e _ hh]
    rw [← ht, List.getElem?_take] at hu
    split at hu
    · simpa using hu
    · cases hu
theorem HS.rd {i : Nat} {A : Option Addr} {n cap : Nat} {xs : List Value} {e : TypeId} {size : Nat} (h : HS w0 w l) (hi : l[i]? = some (.row A n cap xs e size)) : Rd w A xs := Own.rd (h.at_ hi)
theorem Ro.rd {B b : Nat} {xs : List Value} (h : Ro B w b xs) : Rd w (some ⟨b, 0, none⟩) xs := by
  obtain ⟨_, cur, T, fr, hh, ht⟩ := h
  intro j u hu
  refine ⟨b, 0, rfl, heap_lt hh, ?_⟩
  rw [Nat.zero_add, cell_of_row w b j _ T _ hh]
  rw [← ht, List.getElem?_take] at hu
  split at hu
  · simpa using hu
  · cases hu
theorem HS.rdo {i b : Nat} {xs : List Value} (h : HS w0 w l) (hi : l[i]? = some (.ro b xs)) : Rd w (some ⟨b, 0, none⟩) xs := Ro.rd (h.at_ hi)
theorem HS.len {i : Nat} {A : Option Addr} {n cap : Nat} {xs : List Value} {e : TypeId} {size : Nat} (h : HS w0 w l) (hi : l[i]? = some (.row A n cap xs e size)) : xs.length = n * size ∧ n ≤ cap ∧ cap ≤ maxLen := by
  have h1 : Own _ _ _ _ _ _ _ _ := h.at_ hi
  exact ⟨h1.1, h1.2.1, h1.2.2.1⟩
theorem HS.ext (h : HS w0 w l) (he : Below w.heap.size w w') : HS w0 w' l := by
  refine ⟨h.base.trans (he.mono h.base.size), fun o ho => ?_, h.apart⟩
  exact Ob.keep (row := none) (h.own o ho) (grown_below he none) (fun k _ e => by cases e)
theorem HS.tail {o : Ob} (h : HS w0 w (o :: l)) : HS w0 w l := ⟨h.base, fun o' ho => h.own o' (List.mem_cons_of_mem _ ho), (List.pairwise_cons.1 h.apart).2⟩
theorem HS.cons {o : Ob} (h : HS w0 w l) (ho : o.ok w0.heap.size w) (ha : ∀ o' ∈ l, o.apart o') : HS w0 w (o :: l) :=
  ⟨h.base, fun o' ho' => by rcases List.mem_cons.1 ho' with rfl | h1; exact ho; exact h.own _ h1, List.pairwise_cons.2 ⟨ha, h.apart⟩⟩
/-- a new block -/
theorem HS.new {b : Nat} {cs : List Value} {T : TypeId} (h : HS w0 w l) (hb : w.heap.size = b) : HS w0 (w.alloc (.cells cs.toArray T)) (.blk b cs T :: l) := by
  subst hb
  refine (h.ext ((Below.refl _ _).alloc (Nat.le_refl _) _)).cons ⟨h.base.size, heap_alloc_new w _⟩ fun o' ho' k hk hk' => ?_
  cases hk
  exact absurd (Ob.lt (h.own o' ho') _ hk').2 (Nat.lt_irrefl _)
/-- only some of the objects, in another order -/
theorem HS.pick (h : HS w0 w l) (is : List Nat) {m : List Ob} (hm : is.map (l[·]?) = m.map some) (hd : is.Nodup) : HS w0 w m := by
  refine ⟨h.base, fun o ho => ?_, ?_⟩
  · have : some o ∈ is.map (l[·]?) := by rw [hm]; exact List.mem_map_of_mem ho
    obtain ⟨i, _, hi⟩ := List.mem_map.1 this
    exact h.at_ hi
  · have hp : ∀ (i j : Nat) (o o' : Ob), l[i]? = some o → l[j]? = some o' → i ≠ j → o.apart o' := by
      intro i j o o' hi hj hij
      obtain ⟨hi', rfl⟩ := List.getElem?_eq_some_iff.1 hi
      obtain ⟨hj', rfl⟩ := List.getElem?_eq_some_iff.1 hj
      rcases Nat.lt_or_gt_of_ne hij with h1 | h1
      · exact List.pairwise_iff_getElem.1 h.apart i j hi' hj' h1
      · exact apart_symm (List.pairwise_iff_getElem.1 h.apart j i hj' hi' h1)
    have h2 : (is.map (l[·]?)).Pairwise (fun x y => ∀ o o' : Ob, x = some o → y = some o' → o.apart o') := by
      rw [List.pairwise_map]
      exact List.Pairwise.imp (fun {i j} hij o o' hi hj => hp i j o o' hi hj hij) hd
    rw [hm, List.pairwise_map] at h2
    exact List.Pairwise.imp (fun {x y} hxy => hxy x y rfl rfl) h2
/-- .. ahead of a part that isn't touched -/
theorem HS.pickT {p m l : List Ob} (h : HS w0 w (p ++ l)) (is : List Nat) (hm : is.map (p[·]?) = m.map some) (hd : is.Nodup) : HS w0 w (m ++ l) := by
  have h1 : HS w0 w p := ⟨h.base, fun o ho => h.own o (List.mem_append.2 (.inl ho)), (List.pairwise_append.1 h.apart).1⟩
  have h2 := h1.pick is hm hd
  refine ⟨h.base, fun o ho => (List.mem_append.1 ho).elim (h2.own o) (fun h3 => h.own o (List.mem_append.2 (.inr h3))), List.pairwise_append.2 ⟨h2.apart, (List.pairwise_append.1 h.apart).2.1, fun x hx y hy => ?_⟩⟩
  have : some x ∈ is.map (p[·]?) := by rw [hm]; exact List.mem_map_of_mem hx
  obtain ⟨i, _, hi⟩ := List.mem_map.1 this
  exact (List.pairwise_append.1 h.apart).2.2 x (List.mem_of_getElem? hi) y hy
/-- a call that leaves what there was, and hands back new objects -/
theorem HS.call {m : List Ob} (h : HS w0 w l) (k : HS w w' m) : HS w0 w' (m ++ l) := by
  have h1 := h.ext k.base
  refine ⟨h1.base, fun o ho => ?_, List.pairwise_append.2 ⟨k.apart, h.apart, fun x hx y hy b hb hb' => ?_⟩⟩
  · rcases List.mem_append.1 ho with h2 | h2
    · exact Ob.mono (k.own o h2) h.base.size
    · exact h1.own o h2
  · have e1 := (Ob.lt (k.own x hx) b hb).1
    have e2 := (Ob.lt (h.own y hy) b hb').2
    omega
/-- one object is written -/
theorem HS.wrote {i : Nat} {o o' : Ob} (h : HS w0 w l) (hi : l[i]? = some o) (hg : w.grownBy w' o.block) (ho : o'.ok w0.heap.size w') (hb : ∀ k, o'.has k → o.has k ∨ w.heap.size ≤ k) : HS w0 w' (l.set i o') := by
  have hbase : Below w0.heap.size w0 w' := h.base.grown hg h.base.size fun k hk => (Ob.lt (h.at_ hi) k (Ob.has_block hk)).1
  have hil := (List.getElem?_eq_some_iff.1 hi).1
  have hap : ∀ j x, l[j]? = some x → j ≠ i → o.apart x := by
    intro j x hj hne
    obtain ⟨hi', rfl⟩ := List.getElem?_eq_some_iff.1 hi
    obtain ⟨hj', rfl⟩ := List.getElem?_eq_some_iff.1 hj
    rcases Nat.lt_or_gt_of_ne hne with h1 | h1
    · exact apart_symm (List.pairwise_iff_getElem.1 h.apart j i hj' hi' h1)
    · exact List.pairwise_iff_getElem.1 h.apart i j hi' hj' h1
  have hap' : ∀ j x, l[j]? = some x → j ≠ i → o'.apart x := by
    intro j x hj hne k hk hx
    rcases hb k hk with e | hk'
    · exact hap j x hj hne k e hx
    · have := (Ob.lt (h.at_ hj) _ hx).2
      omega
  refine ⟨hbase, fun x hx => ?_, ?_⟩
  · obtain ⟨j, hj⟩ := List.mem_iff_getElem?.1 hx
    by_cases hji : i = j
    · subst hji
      rw [List.getElem?_set_self hil] at hj
      cases hj; exact ho
    · rw [List.getElem?_set_ne hji] at hj
      exact Ob.keep (h.at_ hj) hg (fun k hk e => hap j x hj (Ne.symm hji) k (Ob.has_block e) hk)
  · rw [List.pairwise_iff_getElem]
    intro a b ha hb' hab
    have ha' : a < l.length := by simpa using ha
    have hb2 : b < l.length := by simpa using hb'
    rw [List.getElem_set, List.getElem_set]
    split
    · rename_i e
      subst e
      rw [if_neg (by omega)]
      exact hap' b _ (List.getElem?_eq_getElem hb2) (by omega)
    · split
      · rename_i e
        subst e
        exact apart_symm (hap' a _ (List.getElem?_eq_getElem ha') (by omega))
      · exact List.pairwise_iff_getElem.1 h.apart a b ha' hb2 hab
theorem HS.upd {i : Nat} {o o' : Ob} (h : HS w0 w l) (hi : l[i]? = some o) (hg : w.grownBy w' o.block) (ho : o'.ok w0.heap.size w') (hb : ∀ k, o'.has k → o.has k ∨ w.heap.size ≤ k) {m : List Ob} (hm : l.set i o' = m) : HS w0 w' m := hm ▸ h.wrote hi hg ho hb
/-- nil, and a literal, as slices -/
theorem HS.nilrow (h : HS w0 w l) (e : TypeId) (size : Nat) : HS w0 w (.row none 0 0 [] e size :: l) :=
  h.cons (show Own _ _ _ _ _ _ _ _ from ⟨by simp, Nat.le_refl _, Nat.zero_le _, .inl rfl⟩) fun _ _ k hk => by simp [Ob.has, Ob.block] at hk
theorem HS.asrow {b : Nat} {cs : List Value} {e : TypeId} (h : HS w0 w (.blk b cs e :: l)) {m size : Nat} (hl : cs.length = m * size) (hm : m ≤ maxLen) : HS w0 w (.row (some ⟨b, 0, none⟩) m m cs e size :: l) := by
  have h1 := h.own _ List.mem_cons_self
  refine h.tail.cons (show Own _ _ _ _ _ _ _ _ from ⟨hl, Nat.le_refl _, hm, .inr ⟨b, cs.toArray, rfl, h1.1, h1.2, by simp [hl], by rw [← hl]; simp⟩⟩) fun o' ho' k hk => ?_
  simp only [Ob.has, Ob.block] at hk
  split at hk
  · cases hk
  · exact (List.pairwise_cons.1 h.apart).1 o' ho' k hk
/-- a slice cut shorter, its capacity too -/
theorem HS.clip {i : Nat} {A : Option Addr} {n cap n' cap' : Nat} {xs : List Value} {e : TypeId} {size : Nat} {m : List Ob} (h : HS w0 w l) (hi : l[i]? = some (.row A n cap xs e size)) (h1 : n' ≤ cap') (h2 : cap' ≤ cap) (h3 : n' ≤ n) (hm : l.set i (.row A n' cap' (xs.take (n' * size)) e size) = m) : HS w0 w m := by
  have hO : Own _ _ _ _ _ _ _ _ := h.at_ hi
  obtain ⟨a1, a2, a3, a4⟩ := hO
  have hle : n' * size ≤ n * size := Nat.mul_le_mul_right _ h3
  refine h.upd (o' := .row A n' cap' (xs.take (n' * size)) e size) hi (World.grownBy.mk rfl rfl rfl (Nat.le_refl _) fun _ _ _ => rfl) ?_ ?_ hm
  · refine ⟨by rw [List.length_take]; omega, h1, by omega, ?_⟩
    rcases a4 with h0 | ⟨g, cur, hA, hB, hh, hs, ht⟩
    · exact .inl (by omega)
    · refine .inr ⟨g, cur, hA, hB, hh, Nat.le_trans (Nat.mul_le_mul_right _ h2) hs, ?_⟩
      rw [← ht, List.take_take, Nat.min_eq_left hle]
  · intro k hk
    simp only [Ob.has, Ob.block] at hk ⊢
    split at hk
    · cases hk
    · rw [if_neg (by omega)]; exact .inl hk
end
end Go.Proofs.YtbnjbgcadkdljaaGreatDoor

namespace Go.Proofs.YtbnjbgcadkdljaaGreatDoor
open Go Go.RowKit

/-! closed facts on types -/
/-- a type of one cell that is no struct and no array -/
def oneB (P : Program) (t : TypeId) : Bool := match P.underlying t with | some (.struct _) | some (.array _ _) => false | some _ => true | none => false
def aggB (P : Program) (t : TypeId) (k : Nat) : Bool := (match P.underlying t with | some (.struct _) | some (.array _ _) => true | _ => false) && ((P.info? t).map (·.size) == some k)
def fldB (P : Program) (t : TypeId) (i k : Nat) : Bool := match P.underlying t with
  | some (.struct fs) => match fs[i]? with | some f => f.offset == k && (match (P.info? f.type).map (·.size) with | some (_ + 1) => true | _ => false) | none => false
  | _ => false
def elB (P : Program) (t : TypeId) (size : Nat) : Bool := match P.underlying t with | some (.slice e) => (P.info? e).map (·.size) == some size | _ => false
section
variable {P : Program} {n : Nat} {L : Fr} {o : Oper} {w : World}
theorem isAgg_one {t : TypeId} (h : oneB P t = true) : (isAgg t).run P w = .ok false w := by
  unfold oneB at h
  unfold isAgg
  cases hu : P.underlying t with
  | none => rw [hu] at h; cases h
  | some d =>
    rw [Sem.run_bind, run_underlying hu w]
    rw [hu] at h
    cases d <;> simp_all
theorem isAgg_agg {t : TypeId} {k : Nat} (h : aggB P t k = true) : (isAgg t).run P w = .ok true w ∧ (sizeOf t).run P w = .ok k w := by
  unfold aggB at h
  simp only [Bool.and_eq_true, beq_iff_eq] at h
  obtain ⟨h1, h2⟩ := h
  constructor
  · unfold isAgg
    cases hu : P.underlying t with
    | none => rw [hu] at h1; cases h1
    | some d =>
      rw [Sem.run_bind, run_underlying hu w]
      rw [hu] at h1
      cases d <;> simp_all
  · cases hi : P.info? t with
    | none => rw [hi] at h2; cases h2
    | some i =>
      rw [hi] at h2
      have : i.size = k := by simpa using h2
      simp [sizeOf, typeInfo, hi, this]
theorem y_ld {t : TypeId} {x : Operand} {ad : Addr} {v : Value} (ho : o.op = .load t x) (hx : ev L x = some (.pointer (some ad))) (ht : oneB P t = true) (hc : w.cell? ad = some v) : Yd P n L o v w := fun a ha => by
  unfold execOp
  have : (loadVar t ad).run P w = .ok v w := by
    unfold loadVar
    rw [Sem.run_bind, isAgg_one ht]
    simp [hc]
  simp only [ho, ha.ev hx, Instr.loadAt, Instr.sureAddr, Sem.run_bind, Sem.run_pure, Result.andThen_ok, this]
theorem add_at (b off j : Nat) : (⟨b, off, none⟩ : Addr).add j = ⟨b, off + j, none⟩ := by unfold Addr.add; split <;> simp_all
theorem load_agg {t : TypeId} {b off k : Nat} {cs : List Value} (ht : aggB P t k = true) (hl : cs.length = k) (hc : ∀ j v, cs[j]? = some v → w.cell? ⟨b, off + j, none⟩ = some v) : (loadVar t ⟨b, off, none⟩).run P w = .ok (.agg cs.toArray) w := by
  unfold loadVar
  rw [Sem.run_bind, (isAgg_agg ht).1]
  simp only [Result.andThen_ok, if_true, Sem.run_bind, (isAgg_agg (w := w) ht).2]
  have := run_loadCells_list (P := P) w ⟨b, off, none⟩ cs (fun j v hv => by rw [add_at]; exact hc j v hv)
  rw [hl] at this
  simp [this]
theorem y_lda {t : TypeId} {x : Operand} {b off k : Nat} {cs : List Value} (ho : o.op = .load t x) (hx : ev L x = some (.pointer (some ⟨b, off, none⟩))) (ht : aggB P t k = true) (hl : cs.length = k)
    (hc : ∀ j v, cs[j]? = some v → w.cell? ⟨b, off + j, none⟩ = some v) : Yd P n L o (.agg cs.toArray) w := fun a ha => by
  unfold execOp
  simp only [ho, ha.ev hx, Instr.loadAt, Instr.sureAddr, Sem.run_bind, Sem.run_pure, Result.andThen_ok, load_agg ht hl hc]
/-- a whole block of the call's own -/
theorem y_ldb {t T : TypeId} {x : Operand} {b k i : Nat} {cs : List Value} {w0 : World} {l : List Ob} (H : HS w0 w l) (ho : o.op = .load t x) (hx : ev L x = some (.pointer (some ⟨b, 0, none⟩))) (ht : aggB P t k = true) (hi : l[i]? = some (.blk b cs T)) (hl : cs.length = k) : Yd P n L o (.agg cs.toArray) w :=
  y_lda ho hx ht hl fun j v hv => by rw [Nat.zero_add]; exact H.cell hi hv
theorem y_fa {t : TypeId} {x : Operand} {f b off k m : Nat} (ho : o.op = .fieldAddr t x f) (hx : ev L x = some (.pointer (some ⟨b, off, none⟩))) (ht : fldB P t f k = true) (hm : off + k = m) : Yd P n L o (.pointer (some ⟨b, m, none⟩)) w := fun a ha => by
  subst hm
  unfold fldB at ht
  split at ht
  · rename_i fs hu
    split at ht
    · rename_i fd hf
      simp only [Bool.and_eq_true, beq_iff_eq] at ht
      obtain ⟨h1, h2⟩ := ht
      have hs : ∃ m, (sizeOf fd.type).run P w = .ok (m + 1) w := by
        cases hi : P.info? fd.type with
        | none => rw [hi] at h2; cases h2
        | some inf =>
          rw [hi] at h2
          simp only [Option.map_some] at h2
          cases hz : inf.size with
          | zero => rw [hz] at h2; cases h2
          | succ m => exact ⟨m, by simp [sizeOf, typeInfo, hi, hz]⟩
      obtain ⟨m, hm⟩ := hs
      unfold execOp
      simp only [ho, ha.ev hx, Instr.fieldAt, Instr.sureAddr, Sem.run_bind, Sem.run_pure, Result.andThen_ok, run_underlying hu w, hf, fieldPlace, hm, Nat.add_one_ne_zero, if_false, Sem.run_ite, h1, add_at]
    · cases ht
  · cases ht
/-- the place of an element -/
theorem y_ia {t : TypeId} {x y : Operand} {k : IntKind} {A : Option Addr} {len cap size b off i p : Nat} {q : Int} (ho : o.op = .indexAddr t x y) (hx : ev L x = some (.slice A len cap)) (hy : ev L y = some (.int k q)) (ht : elB P t size = true)
    (hA : A = some ⟨b, off, none⟩) (hq : q = (i : Int)) (hi : i < len) (hp : off + i * size = p) : Yd P n L o (.pointer (some ⟨b, p, none⟩)) w := fun a ha => by
  subst hp; subst hq; subst hA
  unfold elB at ht
  split at ht
  · rename_i e hu
    simp only [beq_iff_eq] at ht
    cases hie : P.info? e with
    | none => rw [hie] at ht; cases ht
    | some inf =>
      rw [hie] at ht
      have hsz : inf.size = size := by simpa using ht
      unfold execOp
      have h0 : (0 : Int) ≤ (i : Int) ∧ (i : Int) < (len : Int) := by omega
      simp [ho, ha.ev hx, ha.ev hy, Instr.indexAt, asIntOf, run_underlying hu w, h0, sizeOf, typeInfo, hie, hsz, add_at]
      omega
  · cases ht
/-- a box -/
theorem op_box {t : TypeId} {x : Operand} {v : Value} {cs : List Value} {w0 : World} {l : List Ob} (H : HS w0 w l) (ho : o.op = .box t x) (hx : ev L x = some v) (hc : v.cells = cs.toArray) :
    OpS P n L o w (fun u w' => ∃ b, u = .pointer (some ⟨b, 0, none⟩) ∧ HS w0 w' (.blk b cs t :: l)) := fun a ha => by
  have : (execOp a.eval o).run P w = .ok (.value (.pointer (some ⟨w.heap.size, 0, none⟩))) (w.alloc (.cells v.cells t)) := by
    unfold execOp
    simp [ho, ha.ev hx, Instr.box, newVar, newRow]
  unfold Oper.wp
  rw [this, hc]
  exact ⟨_, rfl, _, rfl, H.new rfl⟩
theorem op_alloc {t : TypeId} {cs : List Value} {w0 : World} {l : List Ob} (H : HS w0 w l) (ho : o.op = .alloc t) (hz : (P.info? t).bind (fun i => i.zero.map Value.cells) = some cs.toArray) :
    OpS P n L o w (fun u w' => ∃ b, u = .pointer (some ⟨b, 0, none⟩) ∧ HS w0 w' (.blk b cs t :: l)) := fun a ha => by
  have : (execOp a.eval o).run P w = .ok (.value (.pointer (some ⟨w.heap.size, 0, none⟩))) (w.alloc (.cells cs.toArray t)) := by
    cases hi : P.info? t with
    | none => rw [hi] at hz; cases hz
    | some inf =>
      rw [hi] at hz
      cases hz2 : inf.zero with
      | none => simp [hz2] at hz
      | some z =>
        have hzc : z.cells = cs.toArray := by simpa [hz2] using hz
        unfold execOp
        simp [ho, Instr.alloc, zeroValue, typeInfo, hi, hz2, newVar, newRow, hzc]
  unfold Oper.wp
  rw [this]
  exact ⟨_, rfl, _, rfl, H.new rfl⟩
/-- a cell of a block is written -/
theorem blk_set {b off : Nat} {cs : List Value} {T : TypeId} {v : Value} (h : Blk w b cs T) : Blk (w.setCell ⟨b, off, none⟩ v) b (cs.set off v) T := by
  unfold Blk at *
  have h1 := heap_setCell_same w b off _ T v h
  rw [h1]
  simp
theorem grown_set {b off : Nat} {v : Value} : w.grownBy (w.setCell ⟨b, off, none⟩ v) (some b) :=
  ⟨rfl, rfl, rfl, by simp, fun k _ hne => Below.heap_setCell _ _ _ _ (fun e => hne (by rw [e]))⟩
theorem HS.set_ {i b off : Nat} {cs : List Value} {T : TypeId} {v : Value} {w0 : World} {l m : List Ob} (H : HS w0 w l) (hi : l[i]? = some (.blk b cs T)) (hm : l.set i (.blk b (cs.set off v) T) = m) : HS w0 (w.setCell ⟨b, off, none⟩ v) m :=
  H.upd (o' := .blk b (cs.set off v) T) hi grown_set ⟨(H.at_ hi).1, blk_set (H.at_ hi).2⟩ (fun _ h => .inl h) hm
theorem Blk.frozen {b j : Nat} {cs : List Value} {T : TypeId} (h : Blk w b cs T) : w.frozen? ⟨b, j, none⟩ = false := frozen_of_row w b j _ T h
theorem run_st1 {ad : Addr} {u v : Value} (hc : w.cell? ad = some u) (hf : w.frozen? ad = false) (h1 : v.oneCell' = true) : (store ad v).run P w = .ok () (w.setCell ad v) := by
  rw [run_store P w ad v _ h1]
  simp [hc, hf]
end
end Go.Proofs.YtbnjbgcadkdljaaGreatDoor

namespace Go.Proofs.YtbnjbgcadkdljaaGreatDoor
open Go Go.RowKit

section
variable {P : Program} {n : Nat} {L : Fr} {o : Oper} {w : World}
theorem op_run {K : Value → World → Prop} (h : ∀ a, Rep n L a → ∃ v w', (execOp a.eval o).run P w = .ok (.value v) w' ∧ K v w') : OpS P n L o w K := fun a ha => by
  obtain ⟨v, w', hr, hk⟩ := h a ha
  unfold Oper.wp
  rw [hr]
  exact ⟨v, rfl, hk⟩
theorem op_skip {K : Value → World → Prop} (h : ∀ a, Rep n L a → ∃ w', (execOp a.eval o).run P w = .ok .skip w' ∧ K undef w') : OpS P n L o w K := fun a ha => by
  obtain ⟨w', hr, hk⟩ := h a ha
  unfold Oper.wp
  rw [hr]
  exact ⟨undef, rfl, hk⟩
/-- cells from a place on -/
def putL : List Value → Nat → List Value → List Value
  | cs, _, [] => cs
  | cs, i, v :: vs => putL (cs.set i v) (i + 1) vs
theorem putL_len : ∀ (vs cs : List Value) (i : Nat), (putL cs i vs).length = cs.length
  | [], _, _ => rfl
  | v :: vs, cs, i => by simp only [putL]; rw [putL_len vs]; simp
theorem putL_take : ∀ (vs cs : List Value) (i m : Nat), i + vs.length ≤ m → (putL cs i vs).take m = putL (cs.take m) i vs
  | [], _, _, _, _ => rfl
  | v :: vs, cs, i, m, h => by
    simp only [List.length_cons] at h
    simp only [putL]
    rw [putL_take vs _ _ _ (by omega), List.take_set]
theorem store_cells {b : Nat} {T : TypeId} : ∀ (vs : List Value) (cs : List Value) (off i : Nat) (w : World), Blk w b cs T → off + i + vs.length ≤ cs.length → (∀ v ∈ vs, v.oneCell' = true) →
    ∃ w', (storeCells ⟨b, off, none⟩ vs i).run P w = .ok () w' ∧ Blk w' b (putL cs (off + i) vs) T ∧ w.grownBy w' (some b) ∧ w'.heap.size = w.heap.size
  | [], cs, off, i, w, h, _, _ => ⟨w, rfl, h, ⟨rfl, rfl, rfl, Nat.le_refl _, fun _ _ _ => rfl⟩, rfl⟩
  | v :: vs, cs, off, i, w, h, hl, h1 => by
    simp only [List.length_cons] at hl
    have hlt : off + i < cs.length := by omega
    have hc := h.cell (List.getElem?_eq_getElem hlt)
    have hs := run_st1 (P := P) (w := w) hc h.frozen (h1 v List.mem_cons_self)
    obtain ⟨w', hr, hb, hg, hz⟩ := store_cells vs (cs.set (off + i) v) off (i + 1) (w.setCell ⟨b, off + i, none⟩ v) (blk_set h) (by simp; omega) (fun u hu => h1 u (List.mem_cons_of_mem _ hu))
    refine ⟨w', ?_, hb, grown_tr grown_set hg, by simpa using hz⟩
    unfold storeCells
    rw [Sem.run_bind, add_at, hs]
    exact hr
def szB (P : Program) (t : TypeId) (k : Nat) : Bool := (P.info? t).map (·.size) == some k
theorem run_size {t : TypeId} {k : Nat} (h : szB P t k = true) : (sizeOf t).run P w = .ok k w := by
  unfold szB at h
  simp only [beq_iff_eq] at h
  cases hi : P.info? t with
  | none => rw [hi] at h; cases h
  | some i =>
    rw [hi] at h
    have : i.size = k := by simpa using h
    simp [sizeOf, typeInfo, hi, this]
theorem run_storeAt {t : TypeId} {b off : Nat} {cs vs : List Value} {T : TypeId} {v : Value} (h : Blk w b cs T) (hv : v.cells = vs.toArray) (ht : szB P t vs.length = true) (hl : off + vs.length ≤ cs.length) (h1 : ∀ v ∈ vs, v.oneCell' = true) :
    ∃ w', (Instr.storeAt t (.pointer (some ⟨b, off, none⟩)) v).run P w = .ok () w' ∧ Blk w' b (putL cs off vs) T ∧ w.grownBy w' (some b) := by
  obtain ⟨w', hr, hb, hg, _⟩ := store_cells (P := P) vs cs off 0 w h (by omega) h1
  refine ⟨w', ?_, by simpa using hb, hg⟩
  unfold Instr.storeAt storeVar
  simp only [Instr.sureAddr, Sem.run_bind, Sem.run_pure, Result.andThen_ok, run_size ht, hv]
  simpa using hr
/-- a store into a block of the call's own -/
theorem op_st {t : TypeId} {x y : Operand} {b off i : Nat} {cs vs : List Value} {T : TypeId} {v : Value} {w0 : World} {l m : List Ob} (H : HS w0 w l) (ho : o.op = .store t x y) (hx : ev L x = some (.pointer (some ⟨b, off, none⟩))) (hy : ev L y = some v)
    (hi : l[i]? = some (.blk b cs T)) (hv : v.cells = vs.toArray) (ht : szB P t vs.length = true) (hl : Nat.ble (off + vs.length) cs.length = true) (h1 : vs.all Value.oneCell' = true) (hm : l.set i (.blk b (putL cs off vs) T) = m) :
    OpS P n L o w (fun _ w' => HS w0 w' m) := op_skip fun a ha => by
  obtain ⟨w', hr, hb, hg⟩ := run_storeAt (P := P) (t := t) (off := off) (vs := vs) (v := v) (H.at_ hi).2 hv ht (Nat.le_of_ble_eq_true hl) (List.all_eq_true.1 h1)
  refine ⟨w', ?_, H.upd (o' := .blk b (putL cs off vs) T) hi hg ⟨(H.at_ hi).1, hb⟩ (fun _ h => .inl h) hm⟩
  unfold execOp
  simp only [ho, ha.ev hx, ha.ev hy, Sem.run_bind, hr, Result.andThen_ok, Sem.run_pure]
/-- .. into a slice of the call's own -/
theorem op_str {t e : TypeId} {x y : Operand} {b off i k cap size : Nat} {xs vs : List Value} {v : Value} {w0 : World} {l m : List Ob} (H : HS w0 w l) (ho : o.op = .store t x y) (hx : ev L x = some (.pointer (some ⟨b, off, none⟩))) (hy : ev L y = some v)
    (hi : l[i]? = some (.row (some ⟨b, 0, none⟩) k cap xs e size)) (hv : v.cells = vs.toArray) (ht : szB P t vs.length = true) (h0 : 0 < vs.length) (hl : off + vs.length ≤ xs.length) (h1 : vs.all Value.oneCell' = true) (hm : l.set i (.row (some ⟨b, 0, none⟩) k cap (putL xs off vs) e size) = m) :
    OpS P n L o w (fun _ w' => HS w0 w' m) := op_skip fun a ha => by
  have hO : Own _ _ _ _ _ _ _ _ := H.at_ hi
  obtain ⟨a1, a2, a3, a4 | ⟨g, cur, hA, hB, hh, hs, htk⟩⟩ := hO
  · have : k = 0 := by omega
    subst this
    have : xs.length = 0 := by simpa using a1
    omega
  · cases hA
    have hcur : cur.size = cur.toList.length := by simp
    have hle : xs.length ≤ cur.size := by rw [a1]; exact Nat.le_trans (Nat.mul_le_mul_right _ a2) hs
    have hBk : Blk w b cur.toList e := by unfold Blk; simpa using hh
    obtain ⟨w', hr, hb, hgr⟩ := run_storeAt (P := P) (t := t) (off := off) (vs := vs) (v := v) hBk hv ht (by rw [← hcur]; omega) (List.all_eq_true.1 h1)
    have hc0 : ¬ cap = 0 := fun h => by
      have : k = 0 := by omega
      subst this
      have : xs.length = 0 := by simpa using a1
      omega
    refine ⟨w', ?_, H.upd (o' := .row (some ⟨b, 0, none⟩) k cap (putL xs off vs) e size) hi (by simpa [Ob.block, hc0] using hgr) (show Own _ _ _ _ _ _ _ _ from ⟨by rw [putL_len]; exact a1, a2, a3, .inr ⟨b, (putL cur.toList off vs).toArray, rfl, hB, hb, by simpa [putL_len] using hs, ?_⟩⟩) (fun _ h => .inl h) hm⟩
    · unfold execOp
      simp only [ho, ha.ev hx, ha.ev hy, Sem.run_bind, hr, Result.andThen_ok, Sem.run_pure]
    · simp only
      rw [putL_take _ _ _ _ (by rw [← a1]; exact hl), htk]
def zl (z0 : List Value) (m : Nat) : List Value := (List.range m).map fun x => z0.getD (x % z0.length) default
theorem zl_eq (z0 : List Value) (m : Nat) : (Array.range m).map (z0.toArray[· % z0.toArray.size]!) = (zl z0 m).toArray := by
  apply Array.ext
  · simp [zl]
  · intro i h1 h2
    simp [zl, List.getD]
theorem op_lit {t e : TypeId} {len size : Nat} {w0 : World} {l : List Ob} {parts : List (Nat × Operand)} {vs : List (Nat × Value)} {cs z0 : List Value} (H : HS w0 w l) (ho : o.op = .buildSlice t len parts.toArray) (ht : P.underlying t = some (.slice e)) (hz : (P.info? e).map (fun i => (i.size, i.zero.map Value.cells)) = some (size, some z0.toArray))
    (hp : parts.map (·.1) = vs.map (·.1)) (hx : evl L (parts.map (·.2)) (vs.map (·.2))) (hle : Nat.ble (len * size) 16777216 = true) (hf : Instr.fill (fun i => some (i * size, size)) (zl z0 (len * size)).toArray vs = some cs.toArray) :
    OpS P n L o w (fun u w' => ∃ b, u = .slice (some ⟨b, 0, none⟩) len len ∧ HS w0 w' (.blk b cs e :: l)) := op_run fun a ha => by
  refine ⟨_, w.alloc (.cells cs.toArray e), ?_, _, rfl, H.new rfl⟩
  rw [← zl_eq] at hf
  have hmap : (parts.map fun (p : Nat × Operand) => (p.1, a.eval p.2)) = vs := by
    have h1 := evl_map ha hx
    rw [List.map_map] at h1
    have h2 : (parts.map fun (p : Nat × Operand) => (p.1, a.eval p.2)) = (parts.map (·.1)).zip (parts.map (a.eval ∘ (·.2))) := by
      rw [List.zip_map']; rfl
    rw [h2, h1, hp, List.zip_map']
    simp
  cases hi : P.info? e with
  | none => rw [hi] at hz; cases hz
  | some inf =>
    rw [hi] at hz
    simp only [Option.map_some, Option.some.injEq, Prod.mk.injEq] at hz
    obtain ⟨h1, h2⟩ := hz
    cases hzz : inf.zero with
    | none => rw [hzz] at h2; cases h2
    | some z =>
      have hzc : z.cells = z0.toArray := by simpa [hzz] using h2
      have hle' := Nat.le_of_ble_eq_true hle
      unfold execOp
      simp only [ho, List.map_toArray, hmap, Instr.buildSlice, Sem.run_bind, run_underlying ht w, Result.andThen_ok, sizeOf, typeInfo, run_program, hi, h1, Sem.run_pure]
      rw [Sem.run_ite, if_neg (by simpa using hle')]
      have e0 : ∀ f : Nat → Value, (Array.range 0).map f = #[] := fun f => by simp
      by_cases h0 : len * size = 0
      · rw [h0, e0] at hf
        simp [h0, e0, hf, newRow]
      · simp only [List.getElem!_toArray, List.size_toArray] at hf
        simp only [h0, if_false, zeroValue, typeInfo, hi, hzz, hzc, newRow, Sem.run_bind, run_program, Result.andThen_ok, Sem.run_pure, List.getElem!_toArray, List.size_toArray, hf, run_newObj, World.alloc_eq]
/-- a new slice of zeroes -/
theorem op_make {t e : TypeId} {x y : Operand} {k k' : IntKind} {m size bytes : Nat} {q q' : Int} {zs : List Value} {w0 : World} {l : List Ob} (H : HS w0 w l) (ho : o.op = .makeSlice t x y) (hx : ev L x = some (.int k q)) (hy : ev L y = some (.int k' q')) (hq : q = (m : Int)) (hq' : q' = (m : Int))
    (ht : P.underlying t = some (.slice e)) (hz : (P.info? e).map (fun i => (i.zero.map (·.cells.toList), i.size, i.bytes)) = some (some zs, size, bytes)) (hb : bytes * m ≤ 281474976710656) (hm : m ≤ maxLen) :
    OpS P n L o w (fun u w' => ∃ b, u = .slice (some ⟨b, 0, none⟩) m m ∧ HS w0 w' (.row (some ⟨b, 0, none⟩) m m (madeCells zs.toArray (m * size)).toList e size :: l)) := op_run fun a ha => by
  subst hq; subst hq'
  cases hi : P.info? e with
  | none => rw [hi] at hz; cases hz
  | some inf =>
    rw [hi] at hz
    simp only [Option.map_some, Option.some.injEq, Prod.mk.injEq] at hz
    obtain ⟨h1, h2, h3⟩ := hz
    cases hzz : inf.zero with
    | none => rw [hzz] at h1; cases h1
    | some z =>
      have hzc : z.cells = zs.toArray := by rw [hzz] at h1; simp only [Option.map_some, Option.some.injEq] at h1; rw [← h1]
      obtain ⟨w', hr, hown, hg⟩ := run_make_full (P := P) w w0.heap.size t e inf z size ht hi hzz h2 k k' m (by rw [h3]; exact hb) hm H.base.size
      rw [hzc] at hown
      refine ⟨_, w', ?_, w.heap.size, rfl, ?_⟩
      · unfold execOp
        simp only [ho, ha.ev hx, ha.ev hy, Sem.run_bind, hr, Result.andThen_ok, Sem.run_pure]
      · have h4 : HS w0 w' l := H.ext ⟨hg.os, hg.tape, hg.output, hg.size, fun k hk => hg.block k hk (by intro h; cases h)⟩
        refine h4.cons (own_of hown) fun o' ho' k hk hk' => ?_
        have : k = w.heap.size := by
          simp only [Ob.has, Ob.block] at hk
          split at hk
          · cases hk
          · cases hk; rfl
        subst this
        exact absurd (Ob.lt (H.own o' ho') _ hk').2 (Nat.lt_irrefl _)
/-- an append that must grow: a new slice -/
theorem app_grow {t ty e : TypeId} {inf : TypeInfo} {z : Value} {A : Option Addr} {ad : Addr} {k cap m c : Nat} {xs ys : List Value} {w0 : World} {l : List Ob} (H : HS w0 w l) (ht : P.underlying t = some (.slice e)) (hi : P.info? e = some inf) (hz : inf.zero = some z) (hzs : z.cells.size = inf.size)
    (hx : Rd w A xs) (hxl : xs.length = k * inf.size) (hkA : k = 0 ∨ A.isSome = true) (hA0 : A = none → cap = 0) (hyl : ys.length = m * inf.size) (hy : ∀ j u, ys[j]? = some u → w.cell? (ad.add j) = some u) (hg : cap < k + m) (h63 : k + m ≤ maxLen) (hb : (k + m) * inf.bytes ≤ 140737488355328) :
    ∃ v w', (Builtin.append_ #[t, t] ty #[.slice A k cap, .slice (some ad) m c]).run P w = .ok v w' ∧ ∃ b cap2, v = .slice (some ⟨b, 0, none⟩) (k + m) cap2 ∧ w.heap.size ≤ b ∧ Own w0.heap.size w' (some ⟨b, 0, none⟩) (k + m) cap2 (xs ++ ys) e inf.size ∧ Below w.heap.size w w' ∧ w'.heap.size = w.heap.size + 1 ∧ b = w.heap.size := by
  have hge := grownCap_ge w (k + m) cap e
  have hcm := grownCap_le_maxLen w (k + m) cap e h63
  have hm63 : ((k + m : Nat) : Int) ≤ 9223372036854775807 := by have := h63; unfold maxLen at this; omega
  have hlen : (xs ++ ys).length = (k + m) * inf.size := by rw [List.length_append, hxl, hyl, Nat.add_mul]
  have hbel : Below w.heap.size w (w.drew.alloc (.cells (xs.toArray ++ ys.toArray ++ Builtin.zeroCells z.cells (grownCap w (k + m) cap e - (k + m))) e)) := ((Below.refl _ _).drew).alloc (Nat.le_refl _) _
  have hown : Own w0.heap.size (w.drew.alloc (.cells (xs.toArray ++ ys.toArray ++ Builtin.zeroCells z.cells (grownCap w (k + m) cap e - (k + m))) e)) (some ⟨w.heap.size, 0, none⟩) (k + m) (grownCap w (k + m) cap e) (xs ++ ys) e inf.size := by
    refine ⟨hlen, hge, hcm, .inr ⟨w.heap.size, _, rfl, H.base.size, heap_alloc_new w.drew _, ?_, ?_⟩⟩
    · simp only [Array.size_append, List.size_toArray, size_zeroCells, hzs, hxl, hyl, ← Nat.add_mul]
      exact Nat.mul_le_mul_right _ (by omega)
    · simp only [Array.toList_append]
      rw [← hlen]
      exact List.take_left
  cases A with
  | some a =>
    have hxc : ∀ j u, xs[j]? = some u → w.cell? (a.add j) = some u := fun j u hu => by
      obtain ⟨b, off, e1, _, hc⟩ := hx j u hu
      cases e1
      rw [add_at]; exact hc
    have hr := run_append_grow (P := P) w t ty e inf z ht hi hz a k cap xs hxl hxc ad m c ys hyl hy (by omega) hm63 (growslice_fits (by omega) hb)
    exact ⟨_, _, hr, w.heap.size, _, rfl, Nat.le_refl _, hown, hbel, by simp, rfl⟩
  | none =>
    have hk : k = 0 := by rcases hkA with h | h; exact h; cases h
    have hc0 := hA0 rfl
    subst hk; subst hc0
    have hx0 : xs = [] := List.length_eq_zero_iff.1 (by simpa using hxl)
    subst hx0
    simp only [Nat.zero_add] at *
    have hr := run_append_nil (P := P) w t ty e inf z ht hi hz ad m c ys hyl hy (by omega) hm63 (by omega)
    simp only [List.nil_append] at hown
    have e0 : (#[] : Array Value) ++ ys.toArray = ys.toArray := by simp
    rw [e0] at hown hbel
    exact ⟨_, _, hr, w.heap.size, _, rfl, Nat.le_refl _, by simpa using hown, hbel, by simp, rfl⟩
theorem info_zero {e : TypeId} {size bytes : Nat} {zs : List Value} (hz : (P.info? e).map (fun i => (i.zero.map (·.cells.toList), i.size, i.bytes)) = some (some zs, size, bytes)) (hzs : zs.length = size) : ∃ inf z, P.info? e = some inf ∧ inf.zero = some z ∧ z.cells.size = inf.size ∧ inf.size = size ∧ inf.bytes = bytes := by
  cases hi' : P.info? e with
  | none => rw [hi'] at hz; cases hz
  | some inf =>
    rw [hi'] at hz
    simp only [Option.map_some, Option.some.injEq, Prod.mk.injEq] at hz
    obtain ⟨h2, h3, h4⟩ := hz
    cases hzz : inf.zero with
    | none => rw [hzz] at h2; cases h2
    | some z =>
      rw [hzz] at h2
      simp only [Option.map_some, Option.some.injEq] at h2
      exact ⟨inf, z, rfl, hzz, by rw [h3, ← hzs, ← h2]; simp, h3, h4⟩
theorem rd_zero {A : Option Addr} {ys : List Value} {m size : Nat} (hr : Rd w A ys) (hl : ys.length = m * size) (hs : 0 < size) (hA : A = none) : ys = [] ∧ m = 0 := by
  subst hA
  have hys : ys = [] := by
    cases ys with
    | nil => rfl
    | cons u ys => obtain ⟨_, _, e, _⟩ := hr 0 u rfl; cases e
  subst hys
  refine ⟨rfl, ?_⟩
  rcases Nat.eq_zero_or_pos m with h | h
  · exact h
  · have := Nat.mul_pos h hs; simp at hl; omega
/-- append of what reads as ys to a slice of the call's own -/
theorem op_app {t e : TypeId} {x y : Operand} {i k cap m c size bytes : Nat} {A A' : Option Addr} {xs ys zs : List Value} {w0 : World} {l : List Ob} (H : HS w0 w l) (ho : o.op = .call { callee := .builtin .append, args := #[x, y], argTypes := #[t, t] })
    (hx : ev L x = some (.slice A k cap)) (hy : ev L y = some (.slice A' m c)) (hi : l[i]? = some (.row A k cap xs e size)) (hr : Rd w A' ys) (hl : ys.length = m * size) (h1 : ys.all Value.oneCell' = true)
    (ht : P.underlying t = some (.slice e)) (hz : (P.info? e).map (fun i => (i.zero.map (·.cells.toList), i.size, i.bytes)) = some (some zs, size, bytes)) (hzs : zs.length = size) (hsz : Nat.blt 0 size = true) (h63 : k + m ≤ maxLen) (hb : (k + m) * bytes ≤ 140737488355328) :
    OpS P n L o w (fun u w' => ∃ A2 cap2, u = .slice A2 (k + m) cap2 ∧ HS w0 w' (l.set i (.row A2 (k + m) cap2 (xs ++ ys) e size))) := op_run fun a ha => by
  have hsz' : 0 < size := by simpa [Nat.blt_eq] using hsz
  obtain ⟨inf, z, hi', hzz, hzc, h3, h4⟩ := info_zero hz hzs
  subst h3; subst h4
  have hO : Own _ _ _ _ _ _ _ _ := H.at_ hi
  have fin : ∀ v w', (Builtin.append_ #[t, t] o.type #[.slice A k cap, .slice A' m c]).run P w = .ok v w' → (execOp a.eval o).run P w = .ok (.value v) w' := fun v w' h => by
    unfold execOp
    simp only [ho, resolve, invoke, builtin, Sem.run_bind, Sem.run_pure, Result.andThen_ok, List.map_toArray, List.map_cons, List.map_nil, ha.ev hx, ha.ev hy, h]
  have same : m = 0 → ys = [] → (Builtin.append_ #[t, t] o.type #[.slice A k cap, .slice A' m c]).run P w = .ok (.slice A k cap) w := fun hm hys => by
    subst hm; subst hys
    have hkc := hO.2.1
    have hf : ∀ ad : Addr, (loadCells ad 0).run P w = .ok #[] w := fun ad => rfl
    cases A <;> cases A' <;> simp [Builtin.append_, run_underlying ht, sizeOf, typeInfo, hi', Builtin.lenOf, Builtin.firstCells, hkc, storeCells, hf]
  by_cases hm0 : m = 0
  · have hys : ys = [] := List.length_eq_zero_iff.1 (by rw [hl, hm0]; simp)
    refine ⟨_, w, fin _ _ (same hm0 hys), A, cap, by rw [hm0]; rfl, ?_⟩
    have e : l.set i (.row A (k + m) cap (xs ++ ys) e inf.size) = l := by
      rw [hm0, hys, Nat.add_zero, List.append_nil]
      obtain ⟨hil, he⟩ := List.getElem?_eq_some_iff.1 hi
      rw [← he]; exact List.set_getElem_self hil
    rw [e]; exact H
  cases A' with
  | none => exact absurd (rd_zero hr hl hsz' rfl).2 hm0
  | some ad =>
    have had : ∀ j u, ys[j]? = some u → w.cell? (ad.add j) = some u := fun j u hu => by
      obtain ⟨b, off, e1, _, hc⟩ := hr j u hu
      cases e1
      rw [add_at]; exact hc
    by_cases hroom : k + m ≤ cap
    · obtain ⟨a1, a2, a3, a4 | ⟨g, cur, hA, hB, hh, hs, htk⟩⟩ := hO
      · omega
      · subst hA
        have hfit : k * inf.size + ys.length ≤ cur.size := by
          rw [hl, ← Nat.add_mul]; exact Nat.le_trans (Nat.mul_le_mul_right _ hroom) hs
        have hrun := run_append_room (P := P) w t o.type e inf ht hi' g k cap cur hh ad m c ys hl had (List.all_eq_true.1 h1) hroom hfit
        refine ⟨_, _, fin _ _ hrun, _, cap, rfl, H.wrote hi (w' := w.setRow g _) ?_ (show Own _ _ _ _ _ _ _ _ from ⟨by rw [List.length_append, a1, hl, Nat.add_mul], hroom, a3, .inr ⟨g, _, rfl, hB, setRow_heap w g cur _ e _ hh, ?_, ?_⟩⟩) (fun _ h => .inl h)⟩
        · refine ⟨rfl, rfl, rfl, by simp, fun j _ hj => setRow_other w g j _ (fun e => hj ?_)⟩
          subst e
          simp only [Ob.has, Ob.block]
          rw [if_neg (by omega)]; rfl
        · simp only [List.size_toArray, List.length_append, List.length_take, List.length_drop, Array.length_toList]
          omega
        · have : (xs ++ ys).length = (k + m) * inf.size := by rw [List.length_append, a1, hl, Nat.add_mul]
          rw [htk, ← this]
          exact List.take_left
    · obtain ⟨v, w', hrun, b, cap2, hv, hb', hown, hbel, _, _⟩ := app_grow (P := P) (ty := o.type) (c := c) H ht hi' hzz hzc (Own.rd hO) hO.1 (by
        rcases hO.2.2.2 with h | ⟨g, cur, hA, _⟩
        · exact .inl (by have := hO.2.1; omega)
        · exact .inr (by rw [hA]; rfl)) (fun hA => by
          rcases hO.2.2.2 with h | ⟨g, cur, hA', _⟩
          · exact h
          · rw [hA] at hA'; cases hA') hl had (by omega) h63 hb
      subst hv
      refine ⟨_, w', fin _ _ hrun, _, cap2, rfl, H.wrote hi (grown_below hbel _) hown fun k' hk' => .inr ?_⟩
      simp only [Ob.has, Ob.block] at hk'
      split at hk'
      · cases hk'
      · cases hk'; exact hb'
/-! slices of slices -/
def subA (A : Option Addr) (cap lo size : Nat) : Option Addr := if cap = lo then A else A.map (·.add (lo * size))
theorem Rd.slice {A : Option Addr} {xs : List Value} {cap lo hi size : Nat} (h : Rd w A xs) (h1 : lo ≤ hi) (h2 : hi ≤ cap) : Rd w (subA A cap lo size) ((xs.take (hi * size)).drop (lo * size)) := fun j u hu => by
  rw [List.getElem?_drop, List.getElem?_take] at hu
  split at hu
  · rename_i hlt
    obtain ⟨b, off, e, hb, hc⟩ := h _ u hu
    subst e
    unfold subA
    split
    · rename_i e
      subst e
      have : hi = cap := by omega
      subst this
      omega
    · refine ⟨b, off + lo * size, by simp [add_at], hb, ?_⟩
      rw [Nat.add_assoc]; exact hc
  · cases hu
theorem y_slice {t : TypeId} {x : Operand} {ol oh om : Option Operand} {vl vh vm : Option Value} {A : Option Addr} {len cap size lo hi mx : Nat} (ho : o.op = .slice t x ol oh om) (hx : ev L x = some (.slice A len cap)) (ht : elB P t size = true)
    (hl : ∀ a, Rep n L a → ol.map a.eval = vl) (hh : ∀ a, Rep n L a → oh.map a.eval = vh) (hm : ∀ a, Rep n L a → om.map a.eval = vm) (hb : (Instr.sliceBounds true len cap vl vh vm).run P w = .ok (lo, hi, mx) w) :
    Yd P n L o (.slice (if mx = lo then A else A.map (·.add (lo * size))) (hi - lo) (mx - lo)) w := fun a ha => by
  unfold elB at ht
  split at ht
  · rename_i e hu
    simp only [beq_iff_eq] at ht
    have hs : szB P e size = true := by unfold szB; simp [ht]
    unfold execOp
    simp only [ho, ha.ev hx, hl a ha, hh a ha, hm a ha, Instr.sliceAt, Instr.slice, Sem.run_bind, run_underlying hu w, Result.andThen_ok, hb, run_size hs, Sem.run_pure]
  · cases ht
theorem ev_some {x : Operand} {v : Value} (h : ev L x = some v) : ∀ a, Rep n L a → (some x).map a.eval = some v := fun a ha => by rw [Option.map_some, ha.ev h]
theorem ev_none : ∀ a, Rep n L a → (none : Option Operand).map a.eval = none := fun _ _ => rfl
/-- x[lo:hi] -/
theorem y_slh {t : TypeId} {x p q : Operand} {k k' : IntKind} {A : Option Addr} {len cap size lo hi : Nat} {a b : Int} (ho : o.op = .slice t x (some p) (some q) none) (hx : ev L x = some (.slice A len cap)) (hp : ev L p = some (.int k a)) (hq : ev L q = some (.int k' b)) (ht : elB P t size = true)
    (ha : a = (lo : Int)) (hb : b = (hi : Int)) (h1 : lo ≤ hi) (h2 : hi ≤ cap) : Yd P n L o (.slice (subA A cap lo size) (hi - lo) (cap - lo)) w := by
  subst ha; subst hb
  refine y_slice ho hx ht (ev_some hp) (ev_some hq) ev_none ?_
  simp [Instr.sliceBounds, run_sliceBound, h1, h2]
/-- x[lo:] -/
theorem y_sl {t : TypeId} {x p : Operand} {k : IntKind} {A : Option Addr} {len cap size lo : Nat} {a : Int} (ho : o.op = .slice t x (some p) none none) (hx : ev L x = some (.slice A len cap)) (hp : ev L p = some (.int k a)) (ht : elB P t size = true)
    (ha : a = (lo : Int)) (h1 : lo ≤ len) : Yd P n L o (.slice (subA A cap lo size) (len - lo) (cap - lo)) w := by
  subst ha
  refine y_slice ho hx ht (ev_some hp) ev_none ev_none ?_
  simp [Instr.sliceBounds, run_sliceBound, h1]
/-- x[:hi] -/
theorem y_sh {t : TypeId} {x q : Operand} {k : IntKind} {A : Option Addr} {len cap size hi : Nat} {b : Int} (ho : o.op = .slice t x none (some q) none) (hx : ev L x = some (.slice A len cap)) (hq : ev L q = some (.int k b)) (ht : elB P t size = true)
    (hb : b = (hi : Int)) (h2 : hi ≤ cap) : Yd P n L o (.slice (subA A cap 0 size) hi cap) w := by
  subst hb
  refine y_slice ho hx ht ev_none (ev_some hq) ev_none ?_
  simp [Instr.sliceBounds, run_sliceBound, h2]
/-- x[:hi:mx] -/
theorem y_shm {t : TypeId} {x q p : Operand} {k k' : IntKind} {A : Option Addr} {len cap size hi mx : Nat} {b c : Int} (ho : o.op = .slice t x none (some q) (some p)) (hx : ev L x = some (.slice A len cap)) (hq : ev L q = some (.int k b)) (hp : ev L p = some (.int k' c)) (ht : elB P t size = true)
    (hb : b = (hi : Int)) (hc : c = (mx : Int)) (h1 : hi ≤ mx) (h2 : mx ≤ cap) : Yd P n L o (.slice (subA A mx 0 size) hi mx) w := by
  subst hb; subst hc
  refine y_slice ho hx ht ev_none (ev_some hq) (ev_some hp) ?_
  simp [Instr.sliceBounds, run_sliceBound, h1, h2]
/-! elements of slices: the place k of A -/
def pt (A : Option Addr) (k : Nat) : Value := .pointer (A.map (·.add k))
theorem Rd.some {A : Option Addr} {xs : List Value} {k : Nat} {u : Value} (h : Rd w A xs) (hk : xs[k]? = some u) : ∃ b off, A = .some ⟨b, off, none⟩ ∧ b < w.heap.size ∧ w.cell? ⟨b, off + k, none⟩ = .some u := h k u hk
theorem y_iar {t : TypeId} {x y : Operand} {k : IntKind} {A : Option Addr} {xs : List Value} {u : Value} {len cap size i p : Nat} {q : Int} (hr : Rd w A xs) (ho : o.op = .indexAddr t x y) (hx : ev L x = some (.slice A len cap)) (hy : ev L y = some (.int k q)) (ht : elB P t size = true)
    (hq : q = (i : Int)) (hi : i < len) (hp : i * size = p) (hu : xs[p]? = some u) : Yd P n L o (pt A p) w := by
  obtain ⟨b, off, e, _, _⟩ := hr p u hu
  subst e
  have := y_ia (P := P) (n := n) (w := w) (p := off + p) ho hx hy ht rfl hq hi (by rw [hp])
  unfold pt
  rw [Option.map_some, add_at]
  exact this
theorem y_ldr {t : TypeId} {x : Operand} {A : Option Addr} {xs : List Value} {k : Nat} {v : Value} (hr : Rd w A xs) (ho : o.op = .load t x) (hx : ev L x = some (pt A k)) (ht : oneB P t = true) (hv : xs[k]? = some v) : Yd P n L o v w := by
  obtain ⟨b, off, e, _, hc⟩ := hr k v hv
  subst e
  unfold pt at hx
  rw [Option.map_some, add_at] at hx
  exact y_ld ho hx ht hc
theorem y_ldra {t : TypeId} {x : Operand} {A : Option Addr} {xs cs : List Value} {k m : Nat} (hr : Rd w A xs) (ho : o.op = .load t x) (hx : ev L x = some (pt A k)) (ht : aggB P t m = true) (hl : cs.length = m) (h0 : 0 < m) (hv : ∀ j v, cs[j]? = some v → xs[k + j]? = some v) : Yd P n L o (.agg cs.toArray) w := by
  have h1 : cs[0]? = some cs[0] := List.getElem?_eq_getElem (by omega)
  obtain ⟨b, off, e, _, _⟩ := hr _ _ (hv 0 _ h1)
  subst e
  unfold pt at hx
  rw [Option.map_some, add_at] at hx
  refine y_lda ho hx ht hl fun j v hj => ?_
  obtain ⟨b', off', e', _, hc⟩ := hr _ _ (hv j v hj)
  cases e'
  rw [Nat.add_assoc]; exact hc
theorem y_far {t : TypeId} {x : Operand} {A : Option Addr} {xs : List Value} {f k m p : Nat} {u : Value} (hr : Rd w A xs) (ho : o.op = .fieldAddr t x f) (hx : ev L x = some (pt A k)) (ht : fldB P t f m = true) (hm : k + m = p) (hu : xs[k]? = some u) : Yd P n L o (pt A p) w := by
  subst hm
  obtain ⟨b, off, e, _, _⟩ := hr _ _ hu
  subst e
  unfold pt at *
  rw [Option.map_some, add_at] at hx ⊢
  rw [← Nat.add_assoc]
  exact y_fa ho hx ht rfl
/-- a store to an element of a slice of the call's own -/
theorem op_ste {t e : TypeId} {x y : Operand} {A : Option Addr} {k i m cap size : Nat} {xs vs : List Value} {v : Value} {w0 : World} {l r : List Ob} (H : HS w0 w l) (ho : o.op = .store t x y) (hx : ev L x = some (pt A k)) (hy : ev L y = some v)
    (hi : l[i]? = some (.row A m cap xs e size)) (hv : v.cells = vs.toArray) (ht : szB P t vs.length = true) (h0 : Nat.blt 0 vs.length = true) (hl : k + vs.length ≤ xs.length) (h1 : vs.all Value.oneCell' = true) (hm : l.set i (.row A m cap (putL xs k vs) e size) = r) :
    OpS P n L o w (fun _ w' => HS w0 w' r) := by
  have h0' : 0 < vs.length := by simpa [Nat.blt_eq] using h0
  have hO : Own _ _ _ _ _ _ _ _ := H.at_ hi
  obtain ⟨a1, a2, a3, a4 | ⟨g, cur, hA, _⟩⟩ := hO
  · have : m = 0 := by omega
    subst this
    have : xs.length = 0 := by simpa using a1
    omega
  · subst hA
    unfold pt at hx
    rw [Option.map_some, add_addr] at hx
    exact op_str H ho hx hy hi hv ht h0' hl h1 hm
/-- a struct's literal -/
theorem mapM_all {α β : Type} {g : α → Sem β} {q : α → Option β} (hg : ∀ x y, q x = some y → (g x).run P w = .ok y w) : ∀ (xs : List α) (ys : List β), xs.map q = ys.map some → (xs.mapM g).run P w = .ok ys w
  | [], [], _ => by simp
  | x :: xs, y :: ys, h => by
    simp only [List.map_cons, List.cons.injEq] at h
    have ih := mapM_all hg xs ys h.2
    rw [List.mapM_cons]
    simp only [Sem.run_bind, Sem.run_pure, hg x y h.1, Result.andThen_ok, ih]
theorem mapM_places {fs : List Field} {places : List (Nat × Nat)} (h : fs.map (fun f => (P.info? f.type).map (fun i => (f.offset, i.size))) = places.map some) : (fs.mapM (m := Sem) fun f => do pure (f.offset, ← sizeOf f.type)).run P w = .ok places w :=
  mapM_all (fun f y hy => by
    cases hi : P.info? f.type with
    | none => rw [hi] at hy; cases hy
    | some inf =>
      rw [hi] at hy
      simp only [Option.map_some, Option.some.injEq] at hy
      subst hy
      simp [sizeOf, typeInfo, hi]) _ _ h
theorem y_build {t : TypeId} {fs : List Field} {places : List (Nat × Nat)} {parts : List (Nat × Operand)} {vs : List (Nat × Value)} {z0 cs : List Value} (ho : o.op = .build t parts.toArray) (hu : P.underlying t = some (.struct fs.toArray))
    (hpl : fs.map (fun f => (P.info? f.type).map (fun i => (f.offset, i.size))) = places.map some) (hz : (P.info? t).bind (fun i => i.zero.map Value.cells) = some z0.toArray) (hp : parts.map (·.1) = vs.map (·.1)) (hx : evl L (parts.map (·.2)) (vs.map (·.2)))
    (hf : Instr.fill (places.toArray[·]?) z0.toArray vs = some cs.toArray) : Yd P n L o (.agg cs.toArray) w := fun a ha => by
  have hmap : (parts.map fun (p : Nat × Operand) => (p.1, a.eval p.2)) = vs := by
    have h1 := evl_map ha hx
    rw [List.map_map] at h1
    have h2 : (parts.map fun (p : Nat × Operand) => (p.1, a.eval p.2)) = (parts.map (·.1)).zip (parts.map (a.eval ∘ (·.2))) := by
      rw [List.zip_map']; rfl
    rw [h2, h1, hp, List.zip_map']
    simp
  cases hi : P.info? t with
  | none => rw [hi] at hz; cases hz
  | some inf =>
    rw [hi] at hz
    cases hzz : inf.zero with
    | none => simp [hzz] at hz
    | some z =>
      have hzc : z.cells = z0.toArray := by simpa [hzz] using hz
      unfold execOp
      simp only [ho, List.map_toArray, hmap, Instr.build, zeroValue, typeInfo, Sem.run_bind, run_program, Result.andThen_ok, hi, hzz, hzc, Sem.run_pure, run_underlying hu w, Array.mapM_eq_mapM_toList, Sem.run_map, mapM_places hpl, hf]
/-! calls -/
def callB (P : Program) (f : FuncId) : Bool := match P.funcs[f]? with | some fn => !(fn.name == "runtime.NumGoroutine") && fn.body.isSome | none => false
theorem op_call {f : FuncId} {xs : List Operand} {ts : Array TypeId} {vs : List Value} {R : Value → World → Prop} (hc : Ret P f vs w R) (ho : o.op = .call { callee := .value (.func f), args := xs.toArray, argTypes := ts }) (hf : callB P f = true) (hx : evl L xs vs) : OpS P n L o w R := fun a ha => by
  have : (execOp a.eval o).run P w = .ok (.enter f vs.toArray) w := by
    unfold callB at hf
    split at hf
    · rename_i fn hfn
      simp only [Bool.and_eq_true, Bool.not_eq_true', beq_eq_false_iff_ne, ne_eq] at hf
      obtain ⟨h1, h2⟩ := hf
      have h3 : ¬ fn.body = none := by cases hb : fn.body <;> simp_all
      unfold execOp
      simp [ho, resolve, evl_map ha hx, Act.eval, Deferred.ofValue, invoke, callFunc, hfn, h1, h3]
    · cases hf
  unfold Oper.wp
  rw [this]
  refine Calls.mono hc fun e w' ⟨v, he, hR⟩ => ?_
  subst he
  exact ⟨v, rfl, hR⟩
end
end Go.Proofs.YtbnjbgcadkdljaaGreatDoor

namespace Go.Proofs.YtbnjbgcadkdljaaGreatDoor
open Go Go.RowKit

section
variable {P : Program} {n : Nat} {ops : Array Oper} {R : World → Prop} {K : Fr → Prop} {L : Fr} {o : Oper} {l : List Oper}
/-- one value in every world of the class; a call may make memory -/
def QY (P : Program) (n : Nat) (L : Fr) (R : World → Prop) (o : Oper) (v : Value) : Prop := ∀ a, Rep n L a → ∀ Y, R Y → o.quietAt P a (fun w' => Below Y.heap.size Y w') Y v
theorem qy_yd {v : Value} (h : ∀ Y, R Y → Yd P n L o v Y) : QY P n L R o v := fun a ha Y hY => by
  unfold Oper.quietAt
  rw [h Y hY a ha]
  exact ⟨rfl, rfl⟩
theorem qy_call {f : FuncId} {xs : List Operand} {ts : Array TypeId} {vs : List Value} {v : Value} (hc : ∀ Y, R Y → Ret P f vs Y (fun u w' => u = v ∧ Below Y.heap.size Y w')) (ho : o.op = .call { callee := .value (.func f), args := xs.toArray, argTypes := ts }) (hf : callB P f = true) (hx : evl L xs vs) : QY P n L R o v := fun a ha Y hY => by
  have : (execOp a.eval o).run P Y = .ok (.enter f vs.toArray) Y := by
    unfold callB at hf
    split at hf
    · rename_i fn hfn
      simp only [Bool.and_eq_true, Bool.not_eq_true', beq_eq_false_iff_ne, ne_eq] at hf
      obtain ⟨h1, h2⟩ := hf
      have h3 : ¬ fn.body = none := by cases hb : fn.body <;> simp_all
      unfold execOp
      simp [ho, resolve, evl_map ha hx, Act.eval, Deferred.ofValue, invoke, callFunc, hfn, h1, h3]
    · cases hf
  unfold Oper.quietAt
  rw [this]
  refine ⟨rfl, Calls.mono (hc Y hY) fun e w' ⟨u, he, hu, hb⟩ => ?_⟩
  subst hu
  exact ⟨he, hb⟩
def Hk (P : Program) (n : Nat) (ops : Array Oper) (R : World → Prop) (K : Fr → Prop) : List Oper → Fr → Prop
  | [], L => K L
  | o :: l, L => ∃ v, ((∀ a, Rep n L a → Region.wanted o (yielded ops a.tmps) = true) ∧ QY P n L R o v ∨ (∀ a, Rep n L a → Region.wanted o (yielded ops a.tmps) = false) ∧ v = undef) ∧ dok n o.dst = true ∧ Hk P n ops R K l (up L o.dst v)
theorem hk_nil (h : K L) : Hk P n ops R K [] L := h
theorem hk_q {v : Value} (h : QY P n L R o v) (hg : o.guard = none) (hd : dok n o.dst = true) (k : Hk P n ops R K l (up L o.dst v)) : Hk P n ops R K (o :: l) L :=
  ⟨v, .inl ⟨fun a _ => by unfold Region.wanted; rw [hg], h⟩, hd, k⟩
theorem hk_y {v : Value} (h : ∀ Y, R Y → Yd P n L o v Y) (hg : o.guard = none) (hd : dok n o.dst = true) (k : Hk P n ops R K l (up L o.dst v)) : Hk P n ops R K (o :: l) L := hk_q (qy_yd h) hg hd k
theorem hk_on {g d : Nat} {b : Bool} {v : Value} (h : QY P n L R o v) (hg : o.guard = some (g, b)) (hgd : (ops[g]?).bind (·.dst) = some d) (hv : lk L d = some (.bool b)) (hd : dok n o.dst = true) (k : Hk P n ops R K l (up L o.dst v)) : Hk P n ops R K (o :: l) L :=
  ⟨v, .inl ⟨fun a ha => by unfold Region.wanted; simp [hg, guard_val ha hgd hv], h⟩, hd, k⟩
theorem hk_off {g d : Nat} {b c : Bool} (hg : o.guard = some (g, b)) (hgd : (ops[g]?).bind (·.dst) = some d) (hv : lk L d = some (.bool c)) (hbc : (c == b) = false) (hd : dok n o.dst = true) (k : Hk P n ops R K l (up L o.dst undef)) : Hk P n ops R K (o :: l) L :=
  ⟨undef, .inr ⟨fun a ha => by
    unfold Region.wanted
    simp only [hg, guard_val ha hgd hv]
    revert hbc
    cases b <;> cases c <;> simp, rfl⟩, hd, k⟩
/-- what one list of slots knows the other knows too -/
def le (M L : Fr) : Prop := ∀ t u, lk M t = some u → lk L t = some u
theorem le_up {M L : Fr} (h : le M L) (d : Option Nat) (v : Value) : le (up M d v) (up L d v) := by
  cases d with
  | none => exact h
  | some d =>
    intro t u hu
    simp only [up, lk] at *
    cases hb : Nat.beq d t <;> rw [hb] at hu
    · exact h t u hu
    · exact hu
theorem le_rep {M L : Fr} (h : le M L) {a : Act} (ha : Rep n L a) : Rep n M a := ⟨ha.size, ha.defers, fun t u hu => ha.at_ t u (h t u hu)⟩
theorem le_know {L : Fr} {d : Nat} {v : Value} (hv : lk L d = some v) : le ((d, v) :: L) L := fun t u hu => by
  simp only [lk] at hu
  cases hb : Nat.beq d t <;> rw [hb] at hu
  · exact hu
  · simp only [cond_true, Option.some.injEq] at hu
    have := Nat.eq_of_beq_eq_true hb
    subst this; subst hu; exact hv
theorem hk_le (hK : ∀ M L : Fr, le M L → K M → K L) : ∀ {l : List Oper} {M L : Fr}, le M L → Hk P n ops R K l M → Hk P n ops R K l L
  | [], M, L, h, k => hK M L h k
  | o :: l, M, L, h, ⟨v, h1, hd, k⟩ => by
    refine ⟨v, ?_, hd, hk_le hK (le_up h _ _) k⟩
    rcases h1 with ⟨h1, h2⟩ | ⟨h1, h2⟩
    · exact .inl ⟨fun a ha => h1 a (le_rep h ha), fun a ha => h2 a (le_rep h ha)⟩
    · exact .inr ⟨fun a ha => h1 a (le_rep h ha), h2⟩
theorem hk_split {d : Nat} {b : Bool} (hK : ∀ M L : Fr, le M L → K M → K L) (hv : lk L d = some (.bool b)) (ht : b = true → Hk P n ops R K l ((d, .bool true) :: L)) (hf : b = false → Hk P n ops R K l ((d, .bool false) :: L)) : Hk P n ops R K l L := by
  cases b
  · exact hk_le hK (le_know hv) (hf rfl)
  · exact hk_le hK (le_know hv) (ht rfl)
theorem hk_splitd {d : Nat} {p : Prop} [Decidable p] (hK : ∀ M L : Fr, le M L → K M → K L) (hv : lk L d = some (.bool (decide p))) (ht : p → Hk P n ops R K l ((d, .bool true) :: L)) (hf : ¬ p → Hk P n ops R K l ((d, .bool false) :: L)) : Hk P n ops R K l L :=
  hk_split hK hv (fun h => ht (of_decide_eq_true h)) (fun h => hf (of_decide_eq_false h))
theorem hk_quiet (hRx : ∀ X X', R X → Ext X X' → R X') : ∀ (l : List Oper) (L : Fr), Hk P n ops R K l L → ∀ a, Rep n L a →
    ∃ aF Lf, Rep n Lf aF ∧ K Lf ∧ ∀ X, R X → wpQuiet P ops (fun w' => ∃ x, w' = X.over x) (SameAct aF) l a
  | [], L, h, a, ha => ⟨a, L, ha, h, fun X _ => wpQuiet_nil (sameAct a)⟩
  | o :: l, L, ⟨v, h1, hd, k⟩, a, ha => by
    obtain ⟨aF, Lf, hF, hK, hq⟩ := hk_quiet hRx l _ k _ (ha.put hd v)
    refine ⟨aF, Lf, hF, hK, fun X hX => ?_⟩
    unfold wpQuiet
    rcases h1 with ⟨h1, h2⟩ | ⟨h1, h2⟩
    · rw [if_pos (h1 a ha)]
      refine ⟨v, fun Y hY => ?_, hq X hX⟩
      obtain ⟨x, rfl⟩ := hY
      have h3 := h2 a ha (X.over x) (hRx _ _ hX (over_below X x))
      unfold Oper.quietAt at *
      generalize (execOp a.eval o).run P (X.over x) = r at *
      cases r with
      | ok m w' =>
        cases m <;> simp only [Oper.quietUpon] at h3 ⊢
        case value u => exact h3
        case skip => exact h3
        case enter f args => exact ⟨h3.1, h3.2.mono fun e w'' ⟨he, hb⟩ => ⟨he, over_of ((over_below X x).trans (hb.mono (over_below X x).size))⟩⟩
      | halt x w' => simp only [Oper.quietUpon] at h3
    · rw [if_neg (by rw [h1 a ha]; decide)]
      subst h2
      exact hq X hX
/-! T -/
def Tv (P : Program) (n : Nat) (ops : Array Oper) (Q : Exit → Act → World → Prop) (R : World → Prop) (l : List Oper) (L : Fr) (w : World) : Prop := ∀ a, Rep n L a → wpHav P ops (fun a w => Q .normal a w) R l a w
variable {Q : Exit → Act → World → Prop} {w : World}
theorem tv_le {M L : Fr} (h : le M L) {l : List Oper} (k : Tv P n ops Q R l M w) : Tv P n ops Q R l L w := fun a ha => k a (le_rep h ha)
theorem tv_all {w0 : World} {ob : List Ob} {l : List Oper} : ∀ M L : Fr, le M L → (∀ X, HS w0 X ob → Tv P n ops Q R l M X) → ∀ X, HS w0 X ob → Tv P n ops Q R l L X := fun _ _ h k X hX => tv_le h (k X hX)
theorem tv_nil (h : Fin n Q .normal L w) : Tv P n ops Q R [] L w := fun a ha => h a ha
theorem tv_op {C : Value → World → Prop} (h : OpS P n L o w C) (hg : o.guard = none) (hd : dok n o.dst = true) (k : ∀ v w', C v w' → R w' ∧ ∀ X, Below w'.heap.size w' X → Tv P n ops Q R l (up L o.dst v) X) : Tv P n ops Q R (o :: l) L w := fun a ha => by
  unfold wpHav
  refine wpList_plain hg fun K' hK' => ?_
  refine wp_dead (fun a' w' ⟨v, e, hk⟩ => hK' _ _ ?_) (h a ha)
  subst e
  obtain ⟨h1, h2⟩ := k v w' hk
  exact wpList_nil ⟨rfl, h1, fun X hX => h2 X hX _ (ha.put hd v)⟩
/-- the region: the objects lR, which T doesn't write, are what H may read -/
theorem cw_draw {id : Nat} {l : List Oper} {w0 : World} {ob : List Ob} (H : HS w0 w ob) (hs ts : List Nat) {lR : List Ob} (hp : ∀ X, HS w0 X ob → HS w0 X lR) (hm : P.follows .mixedOrders = true) (hB : twoB l.toArray hs ts = true) (hR : roomB l.toArray hs n = true)
    (h : Hk P n l.toArray (fun X => HS w0 X lR) (fun Lf => ∀ X, HS w0 X ob → Tv P n l.toArray Q (fun X => HS w0 X lR) (pick l ts) Lf X) (pick l hs) L) : Cw P n Q (.region id l.toArray true) L w := fun a ha => by
  obtain ⟨aF, Lf, hF, hK, hq⟩ := hk_quiet (fun X X' h k => h.ext k) _ _ h a ha
  exact wp_region_two' hs ts aF (fun X => HS w0 X lR) (fun X hX => hp X (H.ext hX)) (fun X X' h k => h.ext k) hm hB (by rw [ha.size]; exact hR) hq (fun X hX => hK X (H.ext hX) aF hF)
end
end Go.Proofs.YtbnjbgcadkdljaaGreatDoor
