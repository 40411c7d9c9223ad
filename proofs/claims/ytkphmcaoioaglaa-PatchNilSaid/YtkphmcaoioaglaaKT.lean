/- A region that draws, whose effects may come in more than one order: all of them, as a tree. -/
import Derived.Test.YtkphmcaoioaglaaK9
set_option linter.unusedVariables false
set_option linter.unusedSimpArgs false
namespace Go.Proofs.Ytkphmcaoioaglaa
open Go Go.RowKit

inductive Tr where
  | leaf
  | step (k : Nat) (t : Tr)
  | alt (a b : Tr)
def Tr.dep : Tr → Nat
  | .leaf => 0
  | .step _ t => t.dep + 1
  | .alt a _ => a.dep
def Tr.keys : Tr → List Nat
  | .leaf => []
  | .step k _ => [k]
  | .alt a b => a.keys ++ b.keys
def Tr.sub (md : Region.Mode) (ops : Array Oper) : Tr → Array Bool → Bool
  | .leaf, seen => (Region.ready md ops seen).isEmpty
  | .step k t, seen => (Region.ready md ops seen).contains k && ((Region.ready md ops (seen.setIfInBounds k true)).all (fun i => t.keys.contains i) && t.sub md ops (seen.setIfInBounds k true))
  | .alt a b, seen => a.sub md ops seen && (b.sub md ops seen && Nat.beq a.dep b.dep)
def Tr.top (md : Region.Mode) (ops : Array Oper) (t : Tr) (seen : Array Bool) : Bool := (Region.ready md ops seen).all (fun i => t.keys.contains i) && t.sub md ops seen
def lexT (md : Region.Mode) (ops : Array Oper) (t : Tr) : List Nat → Array Bool → Bool
  | [], seen => t.top md ops seen
  | k :: hs, seen => (Region.ready md ops seen).contains k && Region.free md ops seen k && lexT md ops t hs (seen.setIfInBounds k true)
def twoT (ops : Array Oper) (hs : List Nat) (t : Tr) : Bool := Region.noSelect ops && decide (hs.length + t.dep = ops.size) && dstsB ops hs && lexT .any ops t hs (Array.replicate ops.size false)

section
variable {P : Program} {ops : Array Oper} {md : Region.Mode} {Q : Exit → Act → World → Prop} {R : World → Prop}
def wpTree (P : Program) (l : List Oper) (Q0 : Act → World → Prop) (R : World → Prop) : Tr → Act → World → Prop
  | .leaf, a, w => Q0 a w
  | .step k t, a, w => ∃ o, l[k]? = some o ∧ wpList P l.toArray (fun e a' w' => e = .normal ∧ R w' ∧ ∀ X, Below w'.heap.size w' X → wpTree P l Q0 R t a' X) [o] a w
  | .alt x y, a, w => wpTree P l Q0 R x a w ∧ wpTree P l Q0 R y a w
theorem tree_none {l : List Oper} {Q0 : Act → World → Prop} {seen : Array Bool} {a : Act} {w : World} : ∀ t : Tr, t.dep = 0 → t.sub md l.toArray seen = true → wpTree P l Q0 R t a w → Region.ready md l.toArray seen = [] ∧ Q0 a w
  | .leaf, _, h, k => ⟨by simpa [Tr.sub] using h, k⟩
  | .step _ _, h, _, _ => by simp [Tr.dep] at h
  | .alt x y, h, h2, k => by
    simp only [Tr.sub, Bool.and_eq_true] at h2
    exact tree_none x h h2.1 k.1
theorem tree_some {l : List Oper} {seen : Array Bool} : ∀ t : Tr, t.dep ≠ 0 → t.sub md l.toArray seen = true → Region.ready md l.toArray seen ≠ []
  | .leaf, h, _ => absurd rfl h
  | .step k t, _, h => by
    simp only [Tr.sub, Bool.and_eq_true] at h
    intro e
    rw [e] at h
    exact absurd h.1 (by simp)
  | .alt x y, h, h2 => by
    simp only [Tr.sub, Bool.and_eq_true] at h2
    exact tree_some x h h2.1
theorem tree_find {l : List Oper} {Q0 : Act → World → Prop} {seen : Array Bool} {a : Act} {w : World} {i : Nat} : ∀ t : Tr, i ∈ t.keys → t.sub md l.toArray seen = true → wpTree P l Q0 R t a w →
    ∃ t' : Tr, t'.dep + 1 = t.dep ∧ t'.top md l.toArray (seen.setIfInBounds i true) = true ∧ wpTree P l Q0 R (.step i t') a w
  | .leaf, h, _, _ => by cases h
  | .step k t, h, h2, k2 => by
    obtain rfl : i = k := by simpa [Tr.keys] using h
    simp only [Tr.sub, Bool.and_eq_true] at h2
    exact ⟨t, rfl, by simp only [Tr.top, Bool.and_eq_true]; exact h2.2, k2⟩
  | .alt x y, h, h2, k2 => by
    simp only [Tr.sub, Bool.and_eq_true] at h2
    rcases List.mem_append.1 h with h | h
    · exact tree_find x h h2.1 k2.1
    · obtain ⟨t', e, h3⟩ := tree_find y h h2.2.1 k2.2
      exact ⟨t', by rw [e]; exact (Nat.eq_of_beq_eq_true h2.2.2).symm, h3⟩
theorem wpAnyE_of_tree {l : List Oper} {Q0 : Act → World → Prop} : ∀ (f : Nat) (t : Tr) (seen : Array Bool) (a : Act) (w : World), t.dep = f → t.top md l.toArray seen = true →
    (∀ X, Ext w X → wpTree P l Q0 R t a X) → wpAnyE P md l.toArray (fun e a w => e = .normal ∧ Q0 a w) R f seen a w
  | 0, t, seen, a, w, hd, hB, h => fun X hX => by
    simp only [Tr.top, Bool.and_eq_true] at hB
    have := tree_none t hd hB.2 (h X hX)
    exact ⟨this.1, rfl, this.2⟩
  | f + 1, t, seen, a, w, hd, hB, h => by
    simp only [Tr.top, Bool.and_eq_true] at hB
    intro X hX
    refine ⟨fun h1 => absurd h1 (tree_some t (by omega) hB.2), fun i hi => ?_⟩
    have hk : i ∈ t.keys := by simpa using List.all_eq_true.1 hB.1 i hi
    obtain ⟨t', e, hT, o, hl, h1⟩ := tree_find t hk hB.2 (h X hX)
    have ho : l.toArray[i]? = some o := by simpa using hl
    unfold wpOp
    simp only [ho]
    by_cases hw : Region.wanted o (yielded l.toArray a.tmps) = true
    · simp only [hw, if_true]
      unfold wpList at h1
      rw [if_pos hw] at h1
      rcases h1 with h1 | ⟨_, a1, w1, hlet⟩
      · refine .inl (wp_calm (fun e a w hq => hq.1) (fun a' w' h2 => ?_) h1)
        unfold wpList at h2
        exact ⟨h2.2.1, wpAnyE_of_tree f t' _ a' w' (by omega) hT h2.2.2⟩
      · exact nomatch hlet.1
    · simp only [hw]
      unfold wpList at h1
      rw [if_neg hw] at h1
      unfold wpList at h1
      exact ⟨h1.2.1, wpAnyE_of_tree f t' _ _ _ (by omega) hT h1.2.2⟩
theorem wpAnyE_lexT {l : List Oper} {tt : Tr} {Q0 : Act → World → Prop} {aF : Act} (hs0 : Region.noSelect l.toArray = true) (hRx : ∀ X X', R X → Ext X X' → R X') (X1 : World) (hX1 : R X1) : ∀ (hs : List Nat) (seen : Array Bool) (a : Act) (w : World), R w →
    lexT md l.toArray tt hs seen = true → dstsB l.toArray hs = true → roomB l.toArray hs a.tmps.size = true →
    (∀ X, R X → wpQuiet P l.toArray (fun w' => ∃ x, w' = X.over x) (SameAct aF) (pick l hs) a) →
    (∀ X, Ext w X → wpTree P l Q0 R tt aF X) →
    wpAnyE P md l.toArray (fun e a w => e = .normal ∧ Q0 a w) R (hs.length + tt.dep) seen a w
  | [], seen, a, w, hw, hB, _, _, h, ht => by
    have e : a = aF := by have := h X1 hX1; unfold pick wpQuiet SameAct at this; exact this
    subst e
    rw [List.length_nil, Nat.zero_add]
    exact wpAnyE_of_tree _ tt seen a w rfl hB ht
  | k :: hs, seen, a, w, hw, hB, hD, hR, h, ht => by
    simp only [lexT, Bool.and_eq_true] at hB
    obtain ⟨⟨hr, hf⟩, hB'⟩ := hB
    have hr' : k ∈ Region.ready md l.toArray seen := by simpa using hr
    obtain ⟨_, o, ho, _⟩ := mem_ready.1 hr'
    have hl : l[k]? = some o := by simpa using ho
    simp only [dstsB, ho, Option.bind_some, Bool.and_eq_true] at hD
    simp only [roomB, List.all_cons, ho, Option.bind_some, Bool.and_eq_true] at hR
    obtain ⟨hD1, hD2⟩ := hD
    obtain ⟨hR1, hR2⟩ := hR
    cases hd : o.dst with
    | none => rw [hd] at hD1; cases hD1
    | some t =>
      rw [hd] at hD1 hR1
      simp only [decide_eq_true_eq] at hR1
      have hother : ∀ o' ∈ pick l hs, o'.dst ≠ some t := fun o' ho' => by
        obtain ⟨j, hj, e⟩ := mem_pick ho'
        have := List.all_eq_true.1 hD1 j hj
        simp only [List.getElem?_toArray, e, Option.bind_some, bne_iff_ne, ne_eq] at this
        exact this
      have hst : ∀ X, R X → ∃ v, YieldsIn P l.toArray (fun w' => ∃ x, w' = X.over x) o v a ∧ wpQuiet P l.toArray (fun w' => ∃ x, w' = X.over x) (SameAct aF) (pick l hs) (a.put o.dst v) ∧ aF.tmps[t]? = some v := fun X hX => by
        have h1 := h X hX
        simp only [pick, hl] at h1
        have h2 : qOp P l.toArray (fun w' => ∃ x, w' = X.over x) k (wpQuiet P l.toArray (fun w' => ∃ x, w' = X.over x) (SameAct aF) (pick l hs)) a := by
          unfold qOp; simp only [ho]; exact h1
        obtain ⟨v, hy, hK⟩ := yieldsIn_of_qOp ho h2
        refine ⟨v, hy, hK, ?_⟩
        rw [quiet_keeps _ _ hother hK, hd]
        unfold Act.put
        simp [hR1]
      obtain ⟨v, hy0, _, hv⟩ := hst X1 hX1
      have hall : ∀ X, R X → YieldsIn P l.toArray (fun w' => ∃ x, w' = X.over x) o v a ∧ wpQuiet P l.toArray (fun w' => ∃ x, w' = X.over x) (SameAct aF) (pick l hs) (a.put o.dst v) := fun X hX => by
        obtain ⟨v', hy', hK', hv'⟩ := hst X hX
        have : v' = v := by rw [hv] at hv'; exact (Option.some.inj hv').symm
        subst this
        exact ⟨hy', hK'⟩
      have hy : YieldsOver P l.toArray R o v a := by
        by_cases hwt : Region.wanted o (yielded l.toArray a.tmps) = true
        · refine .inl ⟨hwt, fun X hX => ?_⟩
          rcases (hall X hX).1 with ⟨_, h1⟩ | ⟨h1, _⟩
          · have h2 := h1 X (over_of (Below.refl _ _))
            unfold Oper.quietAt at *
            generalize (execOp a.eval o).run P X = r at *
            cases r with
            | ok n w' =>
              cases n <;> simp only [Oper.quietUpon] at h2 ⊢
              case value u => exact h2
              case skip => exact h2
              case enter f args => exact ⟨h2.1, h2.2.mono fun e w'' ⟨he, x, hx⟩ => ⟨he, hx ▸ over_below X x⟩⟩
            | halt x w' => simp only [Oper.quietUpon] at h2
          · rw [hwt] at h1; cases h1
        · rcases hy0 with ⟨h1, _⟩ | ⟨h1, h2⟩
          · exact absurd h1 hwt
          · exact .inr ⟨h1, h2⟩
      rw [show (k :: hs).length + tt.dep = (hs.length + tt.dep) + 1 by simp only [List.length_cons]; omega]
      exact wpAnyE_first ho (Region.noSelect_spec hs0) (fun c a w hq => nomatch hq.1) hRx (hs.length + tt.dep) seen a w hw (Region.free_spec ho hf) hr' hy
        (wpAnyE_lexT hs0 hRx X1 hX1 hs _ _ w hw hB' hD2 (by rw [put_size]; exact hR2) (fun X hX => (hall X hX).2) ht)
theorem wp_region_tree {id : Nat} {a : Act} {l : List Oper} {W : World} (hs : List Nat) (t : Tr) (aF : Act) (R : World → Prop) (hR0 : ∀ X, Below W.heap.size W X → R X) (hRx : ∀ X X', R X → Ext X X' → R X') (hm : P.follows .mixedOrders = true) (hB : twoT l.toArray hs t = true) (hR : roomB l.toArray hs a.tmps.size = true)
    (h1 : ∀ X, R X → wpQuiet P l.toArray (fun w' => ∃ x, w' = X.over x) (SameAct aF) (pick l hs) a)
    (h2 : ∀ X, Below W.heap.size W X → wpTree P l (fun a w => Q .normal a w) R t aF X) : (Code.region id l.toArray true).wp P Q a W := by
  simp only [twoT, Bool.and_eq_true, decide_eq_true_eq] at hB
  obtain ⟨⟨⟨hs0, hlen⟩, hD⟩, hL⟩ := hB
  refine wp_region_any hm ?_
  have h0 : R { W with drawn := W.drawn + 1 } := hR0 _ (Below.refl _ _).drew
  have h3 := wpAny_monoQ (Q := fun e a w => e = .normal ∧ Q .normal a w) (Q' := Q) (fun e a w h => by obtain ⟨rfl, h⟩ := h; exact h) (fun e a w h => h.1) _ _ _ _ (wpAny_of_E (R := R) _ _ _ _
    (wpAnyE_lexT hs0 hRx _ h0 hs _ a _ h0 hL hD hR h1 fun X hX => h2 X ((Below.refl _ W).drew.trans hX)))
  rw [hlen] at h3
  exact h3
theorem tree_mono {l : List Oper} {Q0 Q1 : Act → World → Prop} (hQ : ∀ a w, Q0 a w → Q1 a w) : ∀ (t : Tr) (a : Act) (w : World), wpTree P l Q0 R t a w → wpTree P l Q1 R t a w
  | .leaf, a, w, h => hQ a w h
  | .alt x y, a, w, h => ⟨tree_mono hQ x a w h.1, tree_mono hQ y a w h.2⟩
  | .step k t, a, w, ⟨o, ho, h⟩ => by
    refine ⟨o, ho, ?_⟩
    unfold wpList at h ⊢
    by_cases hw : Region.wanted o (yielded l.toArray a.tmps) = true
    · rw [if_pos hw] at h ⊢
      rcases h with h | ⟨_, a1, w1, hlet⟩
      · refine .inl (wp_calm (fun e a w hq => hq.1) (fun a' w' h2 => ?_) h)
        unfold wpList at h2 ⊢
        exact ⟨h2.1, h2.2.1, fun X hX => tree_mono hQ t a' X (h2.2.2 X hX)⟩
      · exact nomatch hlet.1
    · rw [if_neg hw] at h ⊢
      unfold wpList at h ⊢
      exact ⟨h.1, h.2.1, fun X hX => tree_mono hQ t _ X (h.2.2 X hX)⟩
/-! T as a tree -/
variable {n : Nat} {w : World}
def TvT (P : Program) (n : Nat) (l : List Oper) (Q0 : Act → World → Prop) (R : World → Prop) (t : Tr) (L : Fr) (w : World) : Prop := ∀ a, Rep n L a → wpTree P l Q0 R t a w
theorem tt_alt {l : List Oper} {Q0 : Act → World → Prop} {x y : Tr} {L : Fr} (h : TvT P n l Q0 R x L w) (k : TvT P n l Q0 R y L w) : TvT P n l Q0 R (.alt x y) L w := fun a ha => ⟨h a ha, k a ha⟩
theorem tt_op {l : List Oper} {Q0 : Act → World → Prop} {t : Tr} {i : Nat} {o : Oper} {L : Fr} {C : Value → World → Prop} (hi : l[i]? = some o) (h : OpS P n L o w C) (hg : o.guard = none) (hd : dok n o.dst = true) (k : ∀ v w', C v w' → R w' ∧ ∀ X, Below w'.heap.size w' X → TvT P n l Q0 R t (up L o.dst v) X) : TvT P n l Q0 R (.step i t) L w := fun a ha => by
  refine ⟨o, hi, wpList_plain hg fun K' hK' => ?_⟩
  refine wp_dead (fun a' w' ⟨v, e, hk⟩ => hK' _ _ ?_) (h a ha)
  subst e
  obtain ⟨h1, h2⟩ := k v w' hk
  exact wpList_nil ⟨rfl, h1, fun X hX => h2 X hX _ (ha.put hd v)⟩
theorem tt_on {l : List Oper} {Q0 : Act → World → Prop} {t : Tr} {i g d : Nat} {b : Bool} {o : Oper} {L : Fr} {C : Value → World → Prop} (hi : l[i]? = some o) (hg : o.guard = some (g, b)) (hgd : (l.toArray[g]?).bind (·.dst) = some d) (hv : lk L d = some (.bool b)) (h : OpS P n L o w C) (hd : dok n o.dst = true)
    (k : ∀ v w', C v w' → R w' ∧ ∀ X, Below w'.heap.size w' X → TvT P n l Q0 R t (up L o.dst v) X) : TvT P n l Q0 R (.step i t) L w := fun a ha => by
  refine ⟨o, hi, ?_⟩
  have hw : Region.wanted o (yielded l.toArray a.tmps) = true := by
    unfold Region.wanted
    simp only [hg, guard_val ha hgd hv, beq_self_eq_true]
  unfold wpList
  rw [if_pos hw]
  refine .inl (wp_dead (fun a' w' ⟨v, e, hk⟩ => ?_) (h a ha))
  subst e
  obtain ⟨h1, h2⟩ := k v w' hk
  exact wpList_nil ⟨rfl, h1, fun X hX => h2 X hX _ (ha.put hd v)⟩
theorem tt_off {l : List Oper} {Q0 : Act → World → Prop} {t : Tr} {i g d : Nat} {b c : Bool} {o : Oper} {L : Fr} (hi : l[i]? = some o) (hg : o.guard = some (g, b)) (hgd : (l.toArray[g]?).bind (·.dst) = some d) (hv : lk L d = some (.bool c)) (hbc : (c == b) = false) (hd : dok n o.dst = true)
    (k : R w ∧ ∀ X, Below w.heap.size w X → TvT P n l Q0 R t (up L o.dst undef) X) : TvT P n l Q0 R (.step i t) L w := fun a ha => by
  refine ⟨o, hi, ?_⟩
  have hw : ¬ Region.wanted o (yielded l.toArray a.tmps) = true := by
    unfold Region.wanted
    simp only [hg, guard_val ha hgd hv]
    revert hbc
    cases b <;> cases c <;> simp
  unfold wpList
  rw [if_neg hw]
  exact wpList_nil ⟨rfl, k.1, fun X hX => k.2 X hX _ (ha.put hd undef)⟩
theorem tt_split {l : List Oper} {Q0 : Act → World → Prop} {t : Tr} {d : Nat} {b : Bool} {L : Fr} (hv : lk L d = some (.bool b)) (ht : b = true → TvT P n l Q0 R t ((d, .bool true) :: L) w) (hf : b = false → TvT P n l Q0 R t ((d, .bool false) :: L) w) : TvT P n l Q0 R t L w := fun a ha => by
  cases b
  · exact hf rfl a (rep_know ha hv)
  · exact ht rfl a (rep_know ha hv)
theorem tt_splitd {l : List Oper} {Q0 : Act → World → Prop} {t : Tr} {d : Nat} {p : Prop} [Decidable p] {L : Fr} (hv : lk L d = some (.bool (decide p))) (ht : p → TvT P n l Q0 R t ((d, .bool true) :: L) w) (hf : ¬ p → TvT P n l Q0 R t ((d, .bool false) :: L) w) : TvT P n l Q0 R t L w :=
  tt_split hv (fun h => ht (of_decide_eq_true h)) (fun h => hf (of_decide_eq_false h))
def LeafQ (n : Nat) (ds : List Nat) (L0 : Fr) (K : Fr → World → Prop) : Act → World → Prop := fun a w => ∃ M, Rep n (M ++ drp ds L0) a ∧ K M w
theorem tt_leaf {l : List Oper} {ds : List Nat} {L0 L M : Fr} {K : Fr → World → Prop} (hK : K M w) (hM : sub L M) (hk : Kp ds L L0) : TvT P n l (LeafQ n ds L0 K) R .leaf L w := fun a ha =>
  ⟨M, ⟨ha.size, ha.defers, fun t v h => by
    rcases lk_app_or h with h1 | h1
    · exact ha.at_ t v (sub_lk hM t v h1)
    · exact ha.at_ t v (hk t v (drp_lk h1).1 (drp_lk h1).2)⟩, hK⟩
/-- behind H -/
def TreeK (P : Program) (n : Nat) (Q : Exit → Act → World → Prop) (w0 : World) (ob lR : List Ob) (l : List Oper) (t : Tr) (Lf : Fr) : Prop := ∃ (L0 : Fr) (ds : List Nat) (K : Fr → World → Prop), le L0 Lf ∧ (∀ X, HS w0 X ob → TvT P n l (LeafQ n ds L0 K) (fun X => HS w0 X lR) t L0 X) ∧ ∀ M X, K M X → Fin n Q .normal (M ++ drp ds L0) X
theorem tree_all {w0 : World} {ob lR : List Ob} {l : List Oper} {t : Tr} : ∀ M L : Fr, le M L → TreeK P n Q w0 ob lR l t M → TreeK P n Q w0 ob lR l t L := fun _ _ h ⟨L0, ds, K, h1, h2⟩ => ⟨L0, ds, K, fun t v k => h t v (h1 t v k), h2⟩
theorem hkt_nil {w0 : World} {ob lR : List Ob} {l : List Oper} {ops : Array Oper} {t : Tr} {L : Fr} (ds : List Nat) (K : Fr → World → Prop) (h : ∀ X, HS w0 X ob → TvT P n l (LeafQ n ds L K) (fun X => HS w0 X lR) t L X) (h2 : ∀ M X, K M X → Fin n Q .normal (M ++ drp ds L) X) :
    Hk P n ops (fun X => HS w0 X lR) (TreeK P n Q w0 ob lR l t) [] L := ⟨L, ds, K, fun _ _ k => k, h, h2⟩
theorem cw_drawT {id : Nat} {l : List Oper} {w0 : World} {ob : List Ob} {L : Fr} (H : HS w0 w ob) (hs : List Nat) (t : Tr) {lR : List Ob} (hp : ∀ X, HS w0 X ob → HS w0 X lR) (hm : P.follows .mixedOrders = true) (hB : twoT l.toArray hs t = true) (hR : roomB l.toArray hs n = true)
    (h : Hk P n l.toArray (fun X => HS w0 X lR) (TreeK P n Q w0 ob lR l t) (pick l hs) L) : Cw P n Q (.region id l.toArray true) L w := fun a ha => by
  obtain ⟨aF, Lf, hF, ⟨L0, ds, K, hle, hT, hK⟩, hq⟩ := hk_quiet (fun X X' h k => h.ext k) _ _ h a ha
  refine wp_region_tree hs t aF (fun X => HS w0 X lR) (fun X hX => hp X (H.ext hX)) (fun X X' h k => h.ext k) hm hB (by rw [ha.size]; exact hR) hq (fun X hX => ?_)
  exact tree_mono (fun a w ⟨M, hr, hk⟩ => hK M w hk a hr) t aF X (hT X (H.ext hX) aF (le_rep hle hF))
end
end Go.Proofs.Ytkphmcaoioaglaa
