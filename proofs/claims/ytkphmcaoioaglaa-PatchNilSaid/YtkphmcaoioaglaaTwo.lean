/-
  A region that draws its order and holds two kinds of operations: H, each of which yields one and the same value in every world over W and only makes memory (loads of what stays, arithmetic, calls of that kind);
  and a chain T (new blocks, stores into them, appends, calls that hand back new memory), of which no operation of H waits. H in the order of the text, then T one by one, between any two of which the world may have grown, serve every order.
-/
import Derived.Test.YtkphmcaoioaglaaRegion
set_option linter.unusedVariables false
set_option linter.unusedSimpArgs false
namespace Go.Proofs.Ytkphmcaoioaglaa
open Go Go.RowKit

section
variable {P : Program} {ops : Array Oper} {md : Region.Mode} {Q : Exit → Act → World → Prop} {R : World → Prop}

def Ext (w w' : World) : Prop := Below w.heap.size w w'
theorem Ext.refl_ (w : World) : Ext w w := Below.refl _ _
theorem Ext.trans_ {a b c : World} (h : Ext a b) (k : Ext b c) : Ext a c := Below.trans h (Below.mono k h.size)

def YieldsOver (P : Program) (ops : Array Oper) (R : World → Prop) (o : Oper) (v : Value) (a : Act) : Prop :=
  (Region.wanted o (yielded ops a.tmps) = true ∧ ∀ X, R X → o.quietAt P a (fun w' => Ext X w') X v) ∨
  (Region.wanted o (yielded ops a.tmps) = false ∧ v = undef)
theorem YieldsOver.of_same {o : Oper} {v : Value} {a a' : Act} (hy : YieldsOver P ops R o v a) (he : execOp a'.eval o = execOp a.eval o)
    (hw : Region.wanted o (yielded ops a'.tmps) = Region.wanted o (yielded ops a.tmps)) : YieldsOver P ops R o v a' := by
  unfold YieldsOver Oper.quietAt at *
  rw [he, hw]
  exact hy
theorem YieldsOver.wpOp {i : Nat} {o : Oper} {v : Value} {a : Act} {X : World} (hi : ops[i]? = some o) (hX : R X) (hy : YieldsOver P ops R o v a) {K : Act → World → Prop}
    (h : ∀ w', Ext X w' → K (a.put o.dst v) w') : wpOp P ops Q i K a X := by
  unfold Go.wpOp
  simp only [hi]
  rcases hy with ⟨hw, hv⟩ | ⟨hw, rfl⟩
  · simp only [hw, if_true]
    refine .inl ?_
    have h3 := hv X hX
    unfold Oper.quietAt at h3
    unfold Oper.wp
    generalize (execOp a.eval o).run P X = r at *
    cases r with
    | ok n w' =>
      cases n <;> simp only [Oper.quietUpon] at h3 <;> simp only [Oper.upon]
      case value u =>
        obtain ⟨e1, e2⟩ := h3
        rw [e1, e2]
        exact h _ (Ext.refl_ _)
      case skip =>
        obtain ⟨e1, e2⟩ := h3
        rw [e1, ← e2]
        exact h _ (Ext.refl_ _)
      case enter f args =>
        obtain ⟨e1, hc⟩ := h3
        rw [e1]
        exact hc.mono fun e w'' ⟨he, hw''⟩ => by subst he; exact h _ hw''
    | halt x w' => simp only [Oper.quietUpon] at h3
  · simp only [hw, Bool.false_eq_true, if_false]; exact h _ (Ext.refl_ _)

theorem wpOp_putOver {j : Nat} {oi oj : Oper} {v : Value} (hj : ops[j]? = some oj) (hap : oi.apart ops oj = true)
    (hsi : ∀ cs b, oi.op ≠ .select cs b) (hsj : ∀ cs b, oj.op ≠ .select cs b)
    (hQ : ∀ c a w, Q (.panic c) (a.put oi.dst v) w → Q (.panic c) a w) {K : Act → World → Prop} {a : Act} {w : World}
    (hy : YieldsOver P ops R oi v a) (h : wpOp P ops Q j K (a.put oi.dst v) w) :
    wpOp P ops Q j (fun a' w' => YieldsOver P ops R oi v a' ∧ K (a'.put oi.dst v) w') a w := by
  obtain ⟨h1, h2, h3⟩ := Oper.apart_spec hap
  have keep : ∀ (a : Act), YieldsOver P ops R oi v a → ∀ u, YieldsOver P ops R oi v (a.put oj.dst u) := fun a hy u =>
    hy.of_same (execOp_put oi hsi a oj.dst u h3) (wanted_put oi a oj.dst u h3)
  have keepD : ∀ d, YieldsOver P ops R oi v { a with defers := d :: a.defers } := fun d => hy.of_same rfl rfl
  unfold wpOp at *
  simp only [hj] at *
  rw [wanted_put oj a oi.dst v h1] at h
  split
  · rename_i hw
    simp only [hw, if_true] at h
    rcases h with h | ⟨hasks, hlets⟩
    case inr => exact .inr ⟨by unfold Oper.asks at *; rw [execOp_put oj hsj a oi.dst v h1] at hasks; exact hasks, hlets⟩
    refine .inl ?_
    unfold Oper.wp at *
    rw [execOp_put oj hsj a oi.dst v h1] at h
    generalize (execOp a.eval oj).run P w = r at *
    cases r with
    | ok n w' =>
      cases n <;> simp only [Oper.upon] at h ⊢
      case value u => exact ⟨keep a hy u, by rw [← Act.put_comm a v u h2]; exact h⟩
      case skip => exact ⟨keep a hy _, by rw [← Act.put_comm a v undef h2]; exact h⟩
      case defer d =>
        refine ⟨keep _ (keepD d) _, ?_⟩
        rw [← Act.put_comm _ v undef h2, ← Act.put_defers]
        exact h
      case enter f args =>
        refine Calls.mono h fun e w'' he => ?_
        cases e with
        | returned u => exact ⟨keep a hy u, by rw [← Act.put_comm a v u h2]; exact he⟩
        | panicked c => exact hQ _ _ _ he
        | outgrown => exact he
      case row row args => exact Rows.mono h fun u w'' he => ⟨keep a hy u, by rw [← Act.put_comm a v u h2]; exact he⟩
    | halt x w' =>
      cases x <;> simp only [Oper.upon] at h ⊢
      case panic u => exact hQ _ _ _ h
  · rename_i hw
    simp only [hw] at h
    exact ⟨keep a hy _, by rw [← Act.put_comm a v undef h2]; exact h⟩

/-- Whatever order is picked from here on, and however the world grows between any two. -/
def wpAnyE (P : Program) (md : Region.Mode) (ops : Array Oper) (Q : Exit → Act → World → Prop) (R : World → Prop) : Nat → Array Bool → Act → World → Prop
  | 0, seen, a, w => ∀ X, Ext w X → Region.ready md ops seen = [] ∧ Q .normal a X
  | f + 1, seen, a, w => ∀ X, Ext w X → (Region.ready md ops seen = [] → Q .normal a X) ∧
      ∀ i ∈ Region.ready md ops seen, wpOp P ops Q i (fun a' w' => R w' ∧ wpAnyE P md ops Q R f (seen.setIfInBounds i true) a' w') a X
theorem wpAnyE.ext {f : Nat} {seen : Array Bool} {a : Act} {w w' : World} (h : wpAnyE P md ops Q R f seen a w) (hw : Ext w w') : wpAnyE P md ops Q R f seen a w' := by
  cases f <;> exact fun X hX => h X (hw.trans_ hX)
theorem wpAny_of_E : ∀ (f : Nat) (seen : Array Bool) (a : Act) (w : World), wpAnyE P md ops Q R f seen a w → wpAny P md ops Q f seen a w
  | 0, _, _, w, h => h w (Ext.refl_ w)
  | f + 1, _, _, w, h => ⟨(h w (Ext.refl_ w)).1, fun i hi => wpOp_mono (fun _ _ h' => wpAny_of_E f _ _ _ h'.2) ((h w (Ext.refl_ w)).2 i hi)⟩

theorem wpAnyE_first {i : Nat} {oi : Oper} {v : Value} (hi : ops[i]? = some oi) (hsel : ∀ (j : Nat) (o : Oper) cs b, ops[j]? = some o → o.op ≠ .select cs b) (hQ : ∀ c a w, ¬ Q (.panic c) a w) (hRx : ∀ X X', R X → Ext X X' → R X') :
    ∀ (f : Nat) (seen : Array Bool) (a : Act) (w : World), R w →
      (∀ j oj, ops[j]? = some oj → j ≠ i → seen.getD j true = false → (∀ e ∈ oj.after, Region.binds md e = true → e.on ≠ i) → oi.apart ops oj = true) →
      i ∈ Region.ready md ops seen → YieldsOver P ops R oi v a →
      wpAnyE P md ops Q R f (seen.setIfInBounds i true) (a.put oi.dst v) w → wpAnyE P md ops Q R (f + 1) seen a w := by
  intro f
  induction f with
  | zero =>
    intro seen a w hw _ hr hy H X hX
    refine ⟨fun h => (by rw [h] at hr; cases hr), fun j hj => ?_⟩
    by_cases hji : j = i
    · subst hji; exact hy.wpOp hi (hRx _ _ hw hX) fun w' hw' => ⟨hRx _ _ (hRx _ _ hw hX) hw', H.ext (hX.trans_ hw')⟩
    · have := ready_mono hj hji
      rw [(H X hX).1] at this
      cases this
  | succ f ih =>
    intro seen a w hw hfree hr hy H X hX
    refine ⟨fun h => (by rw [h] at hr; cases hr), fun j hj => ?_⟩
    by_cases hji : j = i
    · subst hji; exact hy.wpOp hi (hRx _ _ hw hX) fun w' hw' => ⟨hRx _ _ (hRx _ _ hw hX) hw', H.ext (hX.trans_ hw')⟩
    · have h1 := (H X hX).2 j (ready_mono hj hji)
      obtain ⟨hjun, oj, hoj, hall⟩ := mem_ready.1 hj
      have hnot : ∀ e ∈ oj.after, Region.binds md e = true → e.on ≠ i := fun e he hb heq => by
        have h1 := hall e he hb
        have h0 := (mem_ready.1 hr).1
        rw [heq] at h1
        rcases Nat.lt_or_ge i seen.size with h' | h'
        · simp [h'] at h0 h1; rw [h0] at h1; cases h1
        · simp [Array.getElem?_eq_none h'] at h1
      have h2 := wpOp_putOver hoj (hfree j oj hoj hji hjun hnot) (fun cs b => hsel i oi cs b hi) (fun cs b => hsel j oj cs b hoj) (fun c a w h => absurd h (hQ c _ w)) hy h1
      have hfree' : ∀ k ok, ops[k]? = some ok → k ≠ i → (seen.setIfInBounds j true).getD k true = false →
          (∀ e ∈ ok.after, Region.binds md e = true → e.on ≠ i) → oi.apart ops ok = true := fun k ok hk hki hun hno => by
        refine hfree k ok hk hki ?_ hno
        by_cases hjk : j = k
        · subst hjk; exact hjun
        · rw [getD_set_ne true hjk] at hun; exact hun
      refine wpOp_mono (fun a' w' h3 => ⟨h3.2.1, ih (seen.setIfInBounds j true) a' w' h3.2.1 hfree' (ready_mono hr (Ne.symm hji)) h3.1 ?_⟩) h2
      rw [Array.setIfInBounds_comm _ _ hji]
      exact h3.2.2

/-! ### H, then T -/
def seqBy (md : Region.Mode) (ops : Array Oper) : List Nat → Array Bool → Bool
  | [], seen => (Region.ready md ops seen).isEmpty
  | k :: ts, seen => decide (Region.ready md ops seen = [k]) && seqBy md ops ts (seen.setIfInBounds k true)
def lexBy (md : Region.Mode) (ops : Array Oper) (ts : List Nat) : List Nat → Array Bool → Bool
  | [], seen => seqBy md ops ts seen
  | k :: hs, seen => (Region.ready md ops seen).contains k && Region.free md ops seen k && lexBy md ops ts hs (seen.setIfInBounds k true)
def dstsB (ops : Array Oper) : List Nat → Bool
  | [] => true
  | k :: hs => (match (ops[k]?).bind (·.dst) with | some t => hs.all (fun j => (ops[j]?).bind (·.dst) != some t) | none => false) && dstsB ops hs
def twoB (ops : Array Oper) (hs ts : List Nat) : Bool := Region.noSelect ops && decide (hs.length + ts.length = ops.size) && dstsB ops hs && lexBy .any ops ts hs (Array.replicate ops.size false)
def roomB (ops : Array Oper) (hs : List Nat) (n : Nat) : Bool := hs.all fun k => match (ops[k]?).bind (·.dst) with | some t => decide (t < n) | none => false
def pick (l : List Oper) : List Nat → List Oper
  | [] => []
  | k :: hs => match l[k]? with | some o => o :: pick l hs | none => pick l hs

/-- T, one by one, however the world grows between any two. -/
def wpHav (P : Program) (ops : Array Oper) (Q : Act → World → Prop) (R : World → Prop) : List Oper → Act → World → Prop
  | [], a, w => Q a w
  | o :: rest, a, w => wpList P ops (fun e a' w' => e = .normal ∧ R w' ∧ ∀ X, Below w'.heap.size w' X → wpHav P ops Q R rest a' X) [o] a w

theorem wp_calm {o : Oper} {a : Act} {w : World} {K K' : Act → World → Prop} {Q' : Exit → Act → World → Prop} (h : ∀ e a w, Q e a w → e = .normal) (hK : ∀ a w, K a w → K' a w) (hh : o.wp P a w K Q) : o.wp P a w K' Q' := by
  refine Oper.wp_mono hK ?_
  unfold Oper.wp at *
  generalize (execOp a.eval o).run P w = r at *
  cases r with
  | ok n w' =>
    cases n <;> simp only [Oper.upon] at hh ⊢
    case value u => exact hh
    case skip => exact hh
    case defer d => exact hh
    case enter f args =>
      refine Calls.mono hh fun e w'' he => ?_
      cases e with
      | returned u => exact he
      | panicked c => exact nomatch h _ _ _ he
      | outgrown => obtain ⟨a, w, hq⟩ := he; exact nomatch h _ _ _ hq
    case row row args => exact hh
  | halt x w' =>
    cases x <;> simp only [Oper.upon] at hh ⊢
    case panic u => exact nomatch h _ _ _ hh

theorem wpAnyE_of_hav {l : List Oper} {Q0 : Act → World → Prop} : ∀ (ts : List Nat) (seen : Array Bool) (a : Act) (w : World), seqBy md l.toArray ts seen = true →
    (∀ X, Ext w X → wpHav P l.toArray Q0 R (pick l ts) a X) → wpAnyE P md l.toArray (fun e a w => e = .normal ∧ Q0 a w) R ts.length seen a w
  | [], seen, a, w, hB, h => fun X hX => ⟨by simpa [seqBy] using hB, rfl, h X hX⟩
  | k :: ts, seen, a, w, hB, h => by
    simp only [seqBy, Bool.and_eq_true, decide_eq_true_eq] at hB
    intro X hX
    refine ⟨fun h1 => (by rw [hB.1] at h1; cases h1), fun i hi => ?_⟩
    have hi0 := hi
    rw [hB.1] at hi
    obtain rfl : i = k := by simpa using hi
    obtain ⟨_, o, ho, _⟩ := mem_ready.1 hi0
    have h1 := h X hX
    have hl : l[i]? = some o := by simpa using ho
    simp only [pick, hl] at h1
    unfold wpHav at h1
    unfold wpOp
    simp only [ho]
    by_cases hw : Region.wanted o (yielded l.toArray a.tmps) = true
    · simp only [hw, if_true]
      unfold wpList at h1
      rw [if_pos hw] at h1
      rcases h1 with h1 | ⟨_, a1, w1, hlet⟩
      · refine .inl (wp_calm (fun e a w hq => hq.1) (fun a' w' h2 => ?_) h1)
        unfold wpList at h2
        exact ⟨h2.2.1, wpAnyE_of_hav ts _ a' w' hB.2 h2.2.2⟩
      · exact nomatch hlet.1
    · simp only [hw]
      unfold wpList at h1
      rw [if_neg hw] at h1
      unfold wpList at h1
      exact ⟨h1.2.1, wpAnyE_of_hav ts _ _ _ hB.2 h1.2.2⟩

/-- this very frame -/
def SameAct (aF a : Act) : Prop := a = aF
theorem sameAct (a : Act) : SameAct a a := rfl
theorem put_size (a : Act) (d : Option Tmp) (v : Value) : (a.put d v).tmps.size = a.tmps.size := by
  unfold Act.put; cases d <;> simp
theorem put_other (a : Act) (d : Option Tmp) (v : Value) (t : Nat) (h : d ≠ some t) : (a.put d v).tmps[t]? = a.tmps[t]? := by
  unfold Act.put
  cases d with
  | none => rfl
  | some e => exact Array.getElem?_setIfInBounds_ne (fun h' => h (by rw [h']))
theorem quiet_keeps {C : World → Prop} {aF : Act} {t : Nat} : ∀ (l : List Oper) (a : Act), (∀ o ∈ l, o.dst ≠ some t) → wpQuiet P ops C (SameAct aF) l a → aF.tmps[t]? = a.tmps[t]?
  | [], a, _, h => by
    unfold wpQuiet SameAct at h
    rw [h]
  | o :: l, a, hd, h => by
    unfold wpQuiet at h
    split at h
    · obtain ⟨v, _, h⟩ := h
      rw [quiet_keeps l _ (fun o' ho' => hd o' (List.mem_cons_of_mem _ ho')) h, put_other _ _ _ _ (hd o List.mem_cons_self)]
    · rw [quiet_keeps l _ (fun o' ho' => hd o' (List.mem_cons_of_mem _ ho')) h, put_other _ _ _ _ (hd o List.mem_cons_self)]
theorem mem_pick {l : List Oper} {o : Oper} : ∀ {hs : List Nat}, o ∈ pick l hs → ∃ j ∈ hs, l[j]? = some o
  | [], h => by cases h
  | k :: hs, h => by
    unfold pick at h
    split at h
    · rename_i o' ho
      rcases List.mem_cons.1 h with h | h
      · subst h
        exact ⟨k, List.mem_cons_self, ho⟩
      · obtain ⟨j, hj, e⟩ := mem_pick h
        exact ⟨j, List.mem_cons_of_mem _ hj, e⟩
    · obtain ⟨j, hj, e⟩ := mem_pick h
      exact ⟨j, List.mem_cons_of_mem _ hj, e⟩

theorem wpAnyE_lex {l : List Oper} {ts : List Nat} {Q0 : Act → World → Prop} {aF : Act} (hs0 : Region.noSelect l.toArray = true) (hRx : ∀ X X', R X → Ext X X' → R X') (X1 : World) (hX1 : R X1) : ∀ (hs : List Nat) (seen : Array Bool) (a : Act) (w : World), R w →
    lexBy md l.toArray ts hs seen = true → dstsB l.toArray hs = true → roomB l.toArray hs a.tmps.size = true →
    (∀ X, R X → wpQuiet P l.toArray (fun w' => ∃ x, w' = X.over x) (SameAct aF) (pick l hs) a) →
    (∀ X, Ext w X → wpHav P l.toArray Q0 R (pick l ts) aF X) →
    wpAnyE P md l.toArray (fun e a w => e = .normal ∧ Q0 a w) R (hs.length + ts.length) seen a w
  | [], seen, a, w, hw, hB, _, _, h, ht => by
    have e : a = aF := by have := h X1 hX1; unfold pick wpQuiet SameAct at this; exact this
    subst e
    rw [List.length_nil, Nat.zero_add]
    exact wpAnyE_of_hav ts seen a w hB ht
  | k :: hs, seen, a, w, hw, hB, hD, hR, h, ht => by
    simp only [lexBy, Bool.and_eq_true] at hB
    obtain ⟨⟨hr, hf⟩, hB'⟩ := hB
    have hr' : k ∈ Region.ready md l.toArray seen := by simpa using hr
    obtain ⟨_, o, ho, _⟩ := mem_ready.1 hr'
    have hl : l[k]? = some o := by simpa using ho
    simp only [dstsB, ho, Option.bind_some, Bool.and_eq_true] at hD
    simp only [roomB, List.all_cons, ho, Option.bind_some, Bool.and_eq_true] at hR
    obtain ⟨hD1, hD2⟩ := hD
    obtain ⟨hR1, hR2⟩ := hR
    cases hd : o.dst with
    | none => rw [hd] at hD1; cases hD1
    | some t =>
      rw [hd] at hD1 hR1
      simp only [decide_eq_true_eq] at hR1
      have hother : ∀ o' ∈ pick l hs, o'.dst ≠ some t := fun o' ho' => by
        obtain ⟨j, hj, e⟩ := mem_pick ho'
        have := List.all_eq_true.1 hD1 j hj
        simp only [List.getElem?_toArray, e, Option.bind_some, bne_iff_ne, ne_eq] at this
        exact this
      have hst : ∀ X, R X → ∃ v, YieldsIn P l.toArray (fun w' => ∃ x, w' = X.over x) o v a ∧ wpQuiet P l.toArray (fun w' => ∃ x, w' = X.over x) (SameAct aF) (pick l hs) (a.put o.dst v) ∧ aF.tmps[t]? = some v := fun X hX => by
        have h1 := h X hX
        simp only [pick, hl] at h1
        have h2 : qOp P l.toArray (fun w' => ∃ x, w' = X.over x) k (wpQuiet P l.toArray (fun w' => ∃ x, w' = X.over x) (SameAct aF) (pick l hs)) a := by
          unfold qOp; simp only [ho]; exact h1
        obtain ⟨v, hy, hK⟩ := yieldsIn_of_qOp ho h2
        refine ⟨v, hy, hK, ?_⟩
        rw [quiet_keeps _ _ hother hK, hd]
        unfold Act.put
        simp [hR1]
      obtain ⟨v, hy0, _, hv⟩ := hst X1 hX1
      have hall : ∀ X, R X → YieldsIn P l.toArray (fun w' => ∃ x, w' = X.over x) o v a ∧ wpQuiet P l.toArray (fun w' => ∃ x, w' = X.over x) (SameAct aF) (pick l hs) (a.put o.dst v) := fun X hX => by
        obtain ⟨v', hy', hK', hv'⟩ := hst X hX
        have : v' = v := by rw [hv] at hv'; exact (Option.some.inj hv').symm
        subst this
        exact ⟨hy', hK'⟩
      have hy : YieldsOver P l.toArray R o v a := by
        by_cases hwt : Region.wanted o (yielded l.toArray a.tmps) = true
        · refine .inl ⟨hwt, fun X hX => ?_⟩
          rcases (hall X hX).1 with ⟨_, h1⟩ | ⟨h1, _⟩
          · have h2 := h1 X (over_of (Below.refl _ _))
            unfold Oper.quietAt at *
            generalize (execOp a.eval o).run P X = r at *
            cases r with
            | ok n w' =>
              cases n <;> simp only [Oper.quietUpon] at h2 ⊢
              case value u => exact h2
              case skip => exact h2
              case enter f args => exact ⟨h2.1, h2.2.mono fun e w'' ⟨he, x, hx⟩ => ⟨he, hx ▸ over_below X x⟩⟩
            | halt x w' => simp only [Oper.quietUpon] at h2
          · rw [hwt] at h1; cases h1
        · rcases hy0 with ⟨h1, _⟩ | ⟨h1, h2⟩
          · exact absurd h1 hwt
          · exact .inr ⟨h1, h2⟩
      rw [show (k :: hs).length + ts.length = (hs.length + ts.length) + 1 by simp only [List.length_cons]; omega]
      exact wpAnyE_first ho (Region.noSelect_spec hs0) (fun c a w hq => nomatch hq.1) hRx (hs.length + ts.length) seen a w hw (Region.free_spec ho hf) hr' hy
        (wpAnyE_lex hs0 hRx X1 hX1 hs _ _ w hw hB' hD2 (by rw [put_size]; exact hR2) (fun X hX => (hall X hX).2) ht)

theorem wpAny_monoQ {Q' : Exit → Act → World → Prop} (hQ : ∀ e a w, Q e a w → Q' e a w) (hc : ∀ e a w, Q e a w → e = .normal) : ∀ (f : Nat) (seen : Array Bool) (a : Act) (w : World), wpAny P md ops Q f seen a w → wpAny P md ops Q' f seen a w
  | 0, _, _, _, h => ⟨h.1, hQ _ _ _ h.2⟩
  | f + 1, _, _, _, h => ⟨fun h0 => hQ _ _ _ (h.1 h0), fun i hi => by
      have h1 := h.2 i hi
      unfold wpOp at *
      split
      · rename_i ho; simp only [ho] at h1; exact wpAny_monoQ hQ hc f _ _ _ h1
      · rename_i o ho
        simp only [ho] at h1
        split
        · rename_i hw
          simp only [hw, if_true] at h1
          rcases h1 with h1 | ⟨_, a1, w1, hlet⟩
          · exact .inl (wp_calm hc (fun a w h2 => wpAny_monoQ hQ hc f _ _ _ h2) h1)
          · exact nomatch hc _ _ _ hlet
        · rename_i hw
          simp only [hw] at h1
          exact wpAny_monoQ hQ hc f _ _ _ h1⟩

/-- H in the order of the text, then T; R: what T keeps. -/
theorem wp_region_two' {id : Nat} {a : Act} {l : List Oper} {W : World} (hs ts : List Nat) (aF : Act) (R : World → Prop) (hR0 : ∀ X, Below W.heap.size W X → R X) (hRx : ∀ X X', R X → Ext X X' → R X') (hm : P.follows .mixedOrders = true) (hB : twoB l.toArray hs ts = true) (hR : roomB l.toArray hs a.tmps.size = true)
    (h1 : ∀ X, R X → wpQuiet P l.toArray (fun w' => ∃ x, w' = X.over x) (SameAct aF) (pick l hs) a)
    (h2 : ∀ X, Below W.heap.size W X → wpHav P l.toArray (fun a w => Q .normal a w) R (pick l ts) aF X) : (Code.region id l.toArray true).wp P Q a W := by
  simp only [twoB, Bool.and_eq_true, decide_eq_true_eq] at hB
  obtain ⟨⟨⟨hs0, hlen⟩, hD⟩, hL⟩ := hB
  refine wp_region_any hm ?_
  have h0 : R { W with drawn := W.drawn + 1 } := hR0 _ (Below.refl _ _).drew
  have h3 := wpAny_monoQ (Q := fun e a w => e = .normal ∧ Q .normal a w) (Q' := Q) (fun e a w h => by obtain ⟨rfl, h⟩ := h; exact h) (fun e a w h => h.1) _ _ _ _ (wpAny_of_E (R := R) _ _ _ _
    (wpAnyE_lex hs0 hRx _ h0 hs _ a _ h0 hL hD hR h1 fun X hX => h2 X ((Below.refl _ W).drew.trans hX)))
  rw [hlen] at h3
  exact h3
/-- .. T keeps all that was there. -/
theorem wp_region_two {id : Nat} {a : Act} {l : List Oper} {W : World} (hs ts : List Nat) (aF : Act) (hm : P.follows .mixedOrders = true) (hB : twoB l.toArray hs ts = true) (hR : roomB l.toArray hs a.tmps.size = true)
    (h1 : ∀ X, Below W.heap.size W X → wpQuiet P l.toArray (fun w' => ∃ x, w' = X.over x) (SameAct aF) (pick l hs) a)
    (h2 : ∀ X, Below W.heap.size W X → wpHav P l.toArray (fun a w => Q .normal a w) (fun X => Below W.heap.size W X) (pick l ts) aF X) : (Code.region id l.toArray true).wp P Q a W :=
  wp_region_two' hs ts aF (fun X => Below W.heap.size W X) (fun _ h => h) (fun _ _ h k => h.trans (k.mono h.size)) hm hB hR h1 h2
theorem grown_ext {W X X' : World} {row : Option Nat} (h : W.grownBy X row) (k : Ext X X') : W.grownBy X' row :=
  ⟨k.os.trans h.os, k.tape.trans h.tape, k.output.trans h.output, Nat.le_trans h.size k.size, fun i hi hne => (k.block i (Nat.lt_of_lt_of_le hi h.size)).trans (h.block i hi hne)⟩
theorem grown_below {W X : World} (h : Below W.heap.size W X) (row : Option Nat) : W.grownBy X row := ⟨h.os, h.tape, h.output, h.size, fun i hi _ => h.block i hi⟩
/-- .. T keeps all that was there but for one row. -/
theorem wp_region_row {id : Nat} {a : Act} {l : List Oper} {W : World} (row : Option Nat) (hs ts : List Nat) (aF : Act) (hm : P.follows .mixedOrders = true) (hB : twoB l.toArray hs ts = true) (hR : roomB l.toArray hs a.tmps.size = true)
    (h1 : ∀ X, W.grownBy X row → wpQuiet P l.toArray (fun w' => ∃ x, w' = X.over x) (SameAct aF) (pick l hs) a)
    (h2 : ∀ X, Below W.heap.size W X → wpHav P l.toArray (fun a w => Q .normal a w) (fun X => W.grownBy X row) (pick l ts) aF X) : (Code.region id l.toArray true).wp P Q a W :=
  wp_region_two' hs ts aF (fun X => W.grownBy X row) (fun _ h => grown_below h row) (fun _ _ h k => grown_ext h k) hm hB hR h1 h2
/-- what is known of a world that has grown but for one row -/
theorem grown_rules {W X : World} {row : Option Nat} (h : W.grownBy X row) : (∀ b o, b < W.heap.size → some b ≠ row → X.cell? ⟨b, o, none⟩ = W.cell? ⟨b, o, none⟩) ∧ (∀ b o, b < W.heap.size → some b ≠ row → X.frozen? ⟨b, o, none⟩ = W.frozen? ⟨b, o, none⟩) :=
  ⟨fun b o hb hne => World.cell?_of_block (h.block b hb hne), fun b o hb hne => by unfold World.frozen?; rw [h.block b hb hne]⟩
theorem grown_tr {a b c : World} {row : Option Nat} (h : a.grownBy b row) (k : b.grownBy c row) : a.grownBy c row :=
  ⟨k.os.trans h.os, k.tape.trans h.tape, k.output.trans h.output, Nat.le_trans h.size k.size, fun i hi hne => (k.block i (Nat.lt_of_lt_of_le hi h.size) hne).trans (h.block i hi hne)⟩
/-- the worlds of a push in a region that draws -/
theorem push_chain {B n1 : Nat} {E W X0 X1 w' X2 X3 : World} {o : Obj} {v : Value} (hE : Below B E W) (hB : B ≤ W.heap.size) (h0 : Below W.heap.size W X0) (h1 : Below n1 (X0.alloc o) X1) (hn : n1 = X0.heap.size + 1)
    (hg : X1.grownBy w' v.ownBlock) (hv : ∀ k, v.ownBlock = some k → B ≤ k) (h2 : Below w'.heap.size w' X2) (h3 : Below X2.heap.size X2 X3) : Below B E X3 ∧ W.heap.size ≤ X3.heap.size := by
  subst hn
  have s0 := h0.size
  have s1 := h1.size
  have s2 := hg.size
  have s3 := h2.size
  have s4 := h3.size
  simp only [World.size_alloc] at s1
  have e1 : Below B E X1 := ((hE.trans (h0.mono hB)).alloc (by omega) _).trans (h1.mono (by omega))
  exact ⟨((e1.grown hg (by omega) hv).trans (h2.mono (by omega))).trans (h3.mono (by omega)), by omega⟩
end
end Go.Proofs.Ytkphmcaoioaglaa
