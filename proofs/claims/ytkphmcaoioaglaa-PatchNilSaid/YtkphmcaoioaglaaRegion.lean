/-
  A region that draws its order: its first n operations yield one and the same value in every world of a class (loads of what stays, arithmetic, calls that hand back a fixed value and stay in the class), whatever order is picked;
  what is left is a forced chain. Then one walk of the first n in the order of the text, and one walk of the chain in whatever world of the class, serve every order.
-/
import Derived.StillTail
import Derived.Deep.Quiet
import Derived.Below
import Derived.KernelRfl
import Derived.WalkKit
set_option linter.unusedVariables false
set_option linter.unusedSimpArgs false
namespace Go.Proofs.Ytkphmcaoioaglaa
open Go Go.RowKit

section
variable {P : Program} {ops : Array Oper} {md : Region.Mode} {C : World → Prop}

/-- f operations below n come up, in whatever order the edges allow; then L. -/
def headIn (P : Program) (md : Region.Mode) (ops : Array Oper) (C : World → Prop) (n : Nat) (L : Array Bool → Act → Prop) : Nat → Array Bool → Act → Prop
  | 0, seen, a => L seen a
  | f + 1, seen, a => Region.ready md ops seen ≠ [] ∧ ∀ i ∈ Region.ready md ops seen, i < n ∧ qOp P ops C i (headIn P md ops C n L f (seen.setIfInBounds i true)) a

theorem headIn_any {n g : Nat} {L : Array Bool → Act → Prop} {Q : Exit → Act → World → Prop} (hL : ∀ seen a w, C w → L seen a → wpAny P md ops Q g seen a w) :
    ∀ (f : Nat) (seen : Array Bool) (a : Act) (w : World), C w → headIn P md ops C n L f seen a → wpAny P md ops Q (f + g) seen a w := by
  intro f
  induction f with
  | zero => intro seen a w hw h; rw [Nat.zero_add]; exact hL _ _ _ hw h
  | succ f ih =>
    intro seen a w hw h
    rw [show f + 1 + g = (f + g) + 1 by omega]
    exact ⟨fun h0 => absurd h0 h.1, fun i hi => wpOp_of_qOp hw (fun a' w' hw' h' => ih _ a' w' hw' h') (h.2 i hi).2⟩

/-- While something below n has not come up, nothing from n on can. -/
theorem below_of_ready {n i j : Nat} {seen : Array Bool} (hs : Region.sinkB md ops n = true) (hc : Region.chainB md ops n = true) (hn : n < ops.size) (inv : HeadInv md ops n seen)
    (hi : i < n) (hun : seen.getD i true = false) (hj : j ∈ Region.ready md ops seen) : j < n := by
  rcases Nat.lt_or_ge j n with h | h
  · exact h
  · exact absurd hj (tail_waits hs hc hn inv _ i rfl hi hun j h)

/-- One that may come up now may be taken first. -/
theorem headIn_first {n i : Nat} {o : Oper} {v : Value} {L : Array Bool → Act → Prop} (ho : ops[i]? = some o) (hns : Region.noSelect ops = true)
    (hs : Region.sinkB md ops n = true) (hc : Region.chainB md ops n = true) (hn : n < ops.size) (hin : i < n) (hL : ∀ seen a, L seen a → ∀ j ∈ Region.ready md ops seen, n ≤ j) :
    ∀ (f : Nat) (seen : Array Bool) (a : Act), HeadInv md ops n seen →
      (∀ j oj, ops[j]? = some oj → j ≠ i → seen.getD j true = false → (∀ e ∈ oj.after, Region.binds md e = true → e.on ≠ i) → o.apart ops oj = true) →
      i ∈ Region.ready md ops seen → YieldsIn P ops C o v a →
      headIn P md ops C n L f (seen.setIfInBounds i true) (a.put o.dst v) → headIn P md ops C n L (f + 1) seen a := by
  intro f
  induction f with
  | zero =>
    intro seen a inv _ hr hy H
    refine ⟨fun h => (by rw [h] at hr; cases hr), fun j hj => ⟨below_of_ready hs hc hn inv hin (mem_ready.1 hr).1 hj, ?_⟩⟩
    by_cases e : j = i
    · subst e; exact hy.qOp ho H
    · have hjn := below_of_ready hs hc hn inv hin (mem_ready.1 hr).1 hj
      have := hL _ _ H j (ready_mono hj e)
      omega
  | succ f ih =>
    intro seen a inv hfree hr hy H
    refine ⟨fun h => (by rw [h] at hr; cases hr), fun j hj => ?_⟩
    have hjn := below_of_ready hs hc hn inv hin (mem_ready.1 hr).1 hj
    refine ⟨hjn, ?_⟩
    by_cases e : j = i
    · subst e; exact hy.qOp ho H
    · have h1 := (H.2 j (ready_mono hj e)).2
      obtain ⟨hju, oj, hoj, hall⟩ := mem_ready.1 hj
      have hwait : ∀ x ∈ oj.after, Region.binds md x = true → x.on ≠ i := fun x hx hb hon => by
        have h2 := hall x hx hb
        rw [hon, getD_both (mem_ready.1 hr).1] at h2
        cases h2
      have h2 := qOp_put hoj (hfree j oj hoj e hju hwait) (fun cs b => Region.noSelect_spec hns i o cs b ho) (fun cs b => Region.noSelect_spec hns j oj cs b hoj) hy h1
      refine qOp_mono (fun a' h3 => ih (seen.setIfInBounds j true) a' (inv.set hj hjn) (fun k ok hk hki hun hno => ?_) (ready_mono hr (Ne.symm e)) h3.1 ?_) h2
      · refine hfree k ok hk hki ?_ hno
        by_cases hjk : j = k
        · subst hjk; exact hju
        · rw [getD_set_ne true hjk] at hun; exact hun
      · rw [Array.setIfInBounds_comm _ _ e]; exact h3.2

/-- The order of the text serves. -/
theorem headIn_lex {n g : Nat} {Lq : Act → Prop} (hns : Region.noSelect ops = true) (hs : Region.sinkB md ops n = true) (hc : Region.chainB md ops n = true) (hn : n < ops.size) :
    ∀ (l : List Oper) (k : Nat) (seen : Array Bool) (a : Act), (∀ j, j < l.length → l[j]? = ops[k + j]?) → k + l.length = n → HeadInv md ops n seen →
    Region.lexHead md ops g l.length k seen = true → wpQuiet P ops C Lq l a →
    headIn P md ops C n (fun seen' a' => Region.seqB md ops g n seen' = true ∧ Lq a') l.length seen a := by
  intro l
  induction l with
  | nil =>
    intro k seen a _ hk _ hB h
    obtain rfl : k = n := by simpa using hk
    exact ⟨by simpa [Region.lexHead] using hB, h⟩
  | cons o l ih =>
    intro k seen a hl hk inv hB h
    have h0 : ops[k]? = some o := by simpa using (hl 0 (by simp)).symm
    simp only [List.length_cons, Region.lexHead, Bool.and_eq_true] at hB
    obtain ⟨⟨hr, hf⟩, hB'⟩ := hB
    have hkn : k < n := by simp only [List.length_cons] at hk; omega
    have hr' : k ∈ Region.ready md ops seen := by simpa using hr
    have hst : qOp P ops C k (wpQuiet P ops C Lq l) a := by unfold qOp; simp only [h0]; exact h
    obtain ⟨v, hy, hK⟩ := yieldsIn_of_qOp h0 hst
    refine headIn_first h0 hns hs hc hn hkn (fun seen' a' hL => seqB_ready hL.1) l.length seen a inv (Region.free_spec h0 hf) hr' hy ?_
    exact ih (k + 1) _ _ (fun j hj => by have := hl (j + 1) (by simp; omega); simpa [Nat.add_assoc, Nat.add_comm 1 j] using this) (by simp only [List.length_cons] at hk; omega) (inv.set hr' hkn) hB' hK

/-- The first n in any order, then the chain. -/
theorem wp_region_head {id : Nat} {Q : Exit → Act → World → Prop} {a : Act} {w : World} {l : List Oper} (n : Nat) (hm : P.follows .mixedOrders = true) (hB : Region.lexTailB .any l.toArray n = true)
    (hC : C { w with drawn := w.drawn + 1 })
    (h : wpQuiet P l.toArray C (fun a' => ∀ w', C w' → wpList P l.toArray Q (l.drop n) a' w') (l.take n) a) : (Code.region id l.toArray true).wp P Q a w := by
  simp only [Region.lexTailB, Bool.and_eq_true, decide_eq_true_eq] at hB
  obtain ⟨⟨⟨⟨hns, hn⟩, hs⟩, hc⟩, hlex⟩ := hB
  have hn' : n < l.length := by simpa using hn
  have htl : (l.take n).length = n := by simp; omega
  have hdl : (l.drop n).length = l.toArray.size - n := by simp
  have inv0 : HeadInv .any l.toArray n (Array.replicate l.toArray.size false) :=
    ⟨by simp, fun j oj _ hl => (by rw [getD_replicate_false] at hl; cases hl), fun t _ ht => getD_in (by simpa using ht) (getD_replicate_false _ _)⟩
  have H := headIn_lex (md := .any) (g := l.toArray.size - n) hns hs hc hn (l.take n) 0 _ a (fun j hj => by
    have hj' : j < n := by rw [htl] at hj; exact hj
    simp [hj']) (by simpa using htl) inv0 (by rw [htl]; exact hlex) h
  refine wp_region_any hm ?_
  have := headIn_any (Q := Q) (g := l.toArray.size - n) (fun seen a' w' hw' hL => by
    have := wpAny_of_seq (md := .any) (Q' := Q) (l.drop n) n seen a' w' (fun j => by simp [List.getElem?_drop]) (by rw [hdl]; exact hL.1) (hL.2 w' hw')
    rwa [hdl] at this) _ _ _ _ hC H
  rw [htl, show n + (l.toArray.size - n) = l.toArray.size by omega] at this
  exact this

end

/-! ### The class: whatever stands over W -/

/-! the greater and the lesser of two numbers, behind names: the walk parts on every 'if' that it finds -/
def mx (a b : Int) : Int := if a < b then b else a
def mn (a b : Int) : Int := if b < a then b else a
theorem mx_eq (a b : Int) : mx a b = max a b := by unfold mx; omega
theorem mn_eq (a b : Int) : mn a b = min a b := by unfold mn; omega
@[go_sem ↓] theorem run_mx {P : Program} {w : World} (ts : Array TypeId) (t : TypeId) (k k' : IntKind) (x y : Int) : (Builtin.max_ ts t #[.int k x, .int k' y]).run P w = .ok (.int k (mx x y)) w := by
  rw [run_max_int2]; rfl
@[go_sem ↓] theorem run_mn {P : Program} {w : World} (ts : Array TypeId) (t : TypeId) (k k' : IntKind) (x y : Int) : (Builtin.min_ ts t #[.int k x, .int k' y]).run P w = .ok (.int k (mn x y)) w := by
  rw [run_min_int2]; rfl

/-! small numbers, as the walk spells them -/
@[simp] theorem lt_add_2 (n : Nat) : n < n + 1 + 1 := by omega
@[simp] theorem lt_add_3 (n : Nat) : n < n + 1 + 1 + 1 := by omega
@[simp] theorem lt_add_4 (n : Nat) : n < n + 1 + 1 + 1 + 1 := by omega
@[simp] theorem lt_add_5 (n : Nat) : n < n + 1 + 1 + 1 + 1 + 1 := by omega
@[simp] theorem lt_add_6 (n : Nat) : n < n + 1 + 1 + 1 + 1 + 1 + 1 := by omega
@[simp] theorem lt_add_7 (n : Nat) : n < n + 1 + 1 + 1 + 1 + 1 + 1 + 1 := by omega
@[simp] theorem lt_add_8 (n : Nat) : n < n + 1 + 1 + 1 + 1 + 1 + 1 + 1 + 1 := by omega
@[simp] theorem lt_add_9 (n : Nat) : n < n + 1 + 1 + 1 + 1 + 1 + 1 + 1 + 1 + 1 := by omega

/-- A world over W: x if x leaves all that is in W as it stood. -/
noncomputable def _root_.Go.World.over (W x : World) : World := @ite _ (Below W.heap.size W x) (Classical.propDecidable _) x W
theorem over_below (W x : World) : Below W.heap.size W (W.over x) := by
  unfold World.over
  by_cases h : Below W.heap.size W x
  · rw [if_pos h]; exact h
  · rw [if_neg h]; exact Below.refl _ _
theorem over_of {W w : World} (h : Below W.heap.size W w) : ∃ x, w = W.over x := ⟨w, by unfold World.over; rw [if_pos h]⟩
@[simp, go_sem] theorem over_cell {W : World} {b : Nat} (h : b < W.heap.size) (x : World) (o : Nat) : (W.over x).cell? ⟨b, o, none⟩ = W.cell? ⟨b, o, none⟩ := Below.cell (p := ⟨b, o, none⟩) (over_below W x) h
@[simp, go_sem] theorem over_frozen {W : World} {b : Nat} (h : b < W.heap.size) (x : World) (o : Nat) : (W.over x).frozen? ⟨b, o, none⟩ = W.frozen? ⟨b, o, none⟩ := Below.frozen (p := ⟨b, o, none⟩) (over_below W x) h

/-- What a call that only makes memory leaves is over W. -/
theorem _root_.Go.Calls.over {P : Program} {f : FuncId} {args : Array Value} {W x : World} {v : Value}
    (h : Calls P f args (W.over x) fun e w' => e = .returned v ∧ Below (W.over x).heap.size (W.over x) w') : Calls P f args (W.over x) fun e w' => e = .returned v ∧ ∃ y, w' = W.over y :=
  h.mono fun _ _ ⟨he, hb⟩ => ⟨he, over_of ((over_below W x).trans (hb.mono (over_below W x).size))⟩
/-- .. of a call that leaves the world alone -/
theorem _root_.Go.Calls.over_same {P : Program} {f : FuncId} {args : Array Value} {W x : World} {v : Value}
    (h : Calls P f args (W.over x) fun e w' => e = .returned v ∧ W.over x = w') : Calls P f args (W.over x) fun e w' => e = .returned v ∧ ∃ y, w' = W.over y :=
  h.mono fun _ _ ⟨he, hb⟩ => ⟨he, x, hb.symm⟩

/-- The whole region is quiet over W. -/
theorem wp_region_over {P : Program} {id : Nat} {Q : Exit → Act → World → Prop} {a : Act} {W : World} {l : List Oper} (hm : P.follows .mixedOrders = true) (hB : Region.lexB .any l.toArray = true)
    (h : wpQuiet P l.toArray (fun w' => ∃ x, w' = W.over x) (fun a' => ∀ w', Below W.heap.size W w' → Q .normal a' w') l a) : (Code.region id l.toArray true).wp P Q a W :=
  wp_region_quiet (C := fun w' => ∃ x, w' = W.over x) hm hB (over_of (Below.refl _ _).drew) (by
    have e : (fun a' => ∀ w', (∃ x, w' = W.over x) → Q .normal a' w') = (fun a' => ∀ w', Below W.heap.size W w' → Q .normal a' w') := by
      funext a'
      exact propext ⟨fun h w' hb => h w' (over_of hb), fun h w' ⟨x, hx⟩ => h w' (hx ▸ over_below W x)⟩
    rw [e]
    exact h)

/-- Its first n operations are; the others are a chain. -/
theorem wp_region_over_tail {P : Program} {id : Nat} {Q : Exit → Act → World → Prop} {a : Act} {W : World} {l : List Oper} (n : Nat) (hm : P.follows .mixedOrders = true) (hB : Region.lexTailB .any l.toArray n = true)
    (h : wpQuiet P l.toArray (fun w' => ∃ x, w' = W.over x) (fun a' => ∀ w', Below W.heap.size W w' → wpList P l.toArray Q (l.drop n) a' w') (l.take n) a) : (Code.region id l.toArray true).wp P Q a W :=
  wp_region_head (C := fun w' => ∃ x, w' = W.over x) n hm hB (over_of (Below.refl _ _).drew) (by
    have e : (fun a' => ∀ w', (∃ x, w' = W.over x) → wpList P l.toArray Q (l.drop n) a' w') = (fun a' => ∀ w', Below W.heap.size W w' → wpList P l.toArray Q (l.drop n) a' w') := by
      funext a'
      exact propext ⟨fun h w' hb => h w' (over_of hb), fun h w' ⟨x, hx⟩ => h w' (hx ▸ over_below W x)⟩
    rw [e]
    exact h)

/-- What is known of a world that stands over another one, as rules for the walk. -/
theorem rules {W w1 : World} {n : Nat} (hb : Below n W w1) (hn : n ≤ W.heap.size) : (∀ b o, b < n → w1.cell? ⟨b, o, none⟩ = W.cell? ⟨b, o, none⟩) ∧ (∀ b o, b < n → w1.frozen? ⟨b, o, none⟩ = W.frozen? ⟨b, o, none⟩) ∧ (∀ b, b < n → b < w1.heap.size) :=
  ⟨fun b o h => hb.cell (p := ⟨b, o, none⟩) h, fun b o h => hb.frozen (p := ⟨b, o, none⟩) h, fun _ h => Nat.lt_of_lt_of_le h (Nat.le_trans hn hb.size)⟩
end Go.Proofs.Ytkphmcaoioaglaa
