/- Texts as one: Region, Base, Push, Nth, Two, Words. -/
import Derived.StillTail
import Derived.Deep.Quiet
import Derived.Below
import Derived.KernelRfl
import Derived.WalkKit
import Derived.Test.YtbnjbgcadkdljaaGreatDoorRows
import Derived.WalkSpells
import Derived.WalkLawsBesides
import Derived.BigQuiet
import Derived.OwnWalk
import Derived.Laws.Rows
import Derived.Deep.AppendLies
import Derived.Lib.Hide
import Derived.Laws.OwnMore
import Derived.Laws.MakeOwn
import Derived.Maps.AppendAt
import Derived.Deep.OwnRows
import Derived.ChangeSlices
import Derived.WideShapes
import Derived.DataShut
set_option linter.unusedVariables false
set_option linter.unusedSimpArgs false
namespace Go.Proofs.YtbnjbgcadkdljaaGreatDoor
open Go Go.RowKit

section
variable {P : Program} {ops : Array Oper} {md : Region.Mode} {C : World → Prop}

/-- f operations below n come up, in whatever order the edges allow; then L. -/
def headIn (P : Program) (md : Region.Mode) (ops : Array Oper) (C : World → Prop) (n : Nat) (L : Array Bool → Act → Prop) : Nat → Array Bool → Act → Prop
  | 0, seen, a => L seen a
  | f + 1, seen, a => Region.ready md ops seen ≠ [] ∧ ∀ i ∈ Region.ready md ops seen, i < n ∧ qOp P ops C i (headIn P md ops C n L f (seen.setIfInBounds i true)) a

theorem headIn_any {n g : Nat} {L : Array Bool → Act → Prop} {Q : Exit → Act → World → Prop} (hL : ∀ seen a w, C w → L seen a → wpAny P md ops Q g seen a w) :
    ∀ (f : Nat) (seen : Array Bool) (a : Act) (w : World), C w → headIn P md ops C n L f seen a → wpAny P md ops Q (f + g) seen a w := by
  intro f
  induction f with
  | zero => intro seen a w hw h; rw [Nat.zero_add]; exact hL _ _ _ hw h
  | succ f ih =>
    intro seen a w hw h
    rw [show f + 1 + g = (f + g) + 1 by omega]
    exact ⟨fun h0 => absurd h0 h.1, fun i hi => wpOp_of_qOp hw (fun a' w' hw' h' => ih _ a' w' hw' h') (h.2 i hi).2⟩

/-- While something below n has not come up, nothing from n on can. -/
theorem below_of_ready {n i j : Nat} {seen : Array Bool} (hs : Region.sinkB md ops n = true) (hc : Region.chainB md ops n = true) (hn : n < ops.size) (inv : HeadInv md ops n seen)
    (hi : i < n) (hun : seen.getD i true = false) (hj : j ∈ Region.ready md ops seen) : j < n := by
  rcases Nat.lt_or_ge j n with h | h
  · exact h
  · exact absurd hj (tail_waits hs hc hn inv _ i rfl hi hun j h)

/-- One that may come up now may be taken first. -/
theorem headIn_first {n i : Nat} {o : Oper} {v : Value} {L : Array Bool → Act → Prop} (ho : ops[i]? = some o) (hns : Region.noSelect ops = true)
    (hs : Region.sinkB md ops n = true) (hc : Region.chainB md ops n = true) (hn : n < ops.size) (hin : i < n) (hL : ∀ seen a, L seen a → ∀ j ∈ Region.ready md ops seen, n ≤ j) :
    ∀ (f : Nat) (seen : Array Bool) (a : Act), HeadInv md ops n seen →
      (∀ j oj, ops[j]? = some oj → j ≠ i → seen.getD j true = false → (∀ e ∈ oj.after, Region.binds md e = true → e.on ≠ i) → o.apart ops oj = true) →
      i ∈ Region.ready md ops seen → YieldsIn P ops C o v a →
      headIn P md ops C n L f (seen.setIfInBounds i true) (a.put o.dst v) → headIn P md ops C n L (f + 1) seen a := by
  intro f
  induction f with
  | zero =>
    intro seen a inv _ hr hy H
    refine ⟨fun h => (by rw [h] at hr; cases hr), fun j hj => ⟨below_of_ready hs hc hn inv hin (mem_ready.1 hr).1 hj, ?_⟩⟩
    by_cases e : j = i
    · subst e; exact hy.qOp ho H
    · have hjn := below_of_ready hs hc hn inv hin (mem_ready.1 hr).1 hj
      have := hL _ _ H j (ready_mono hj e)
      omega
  | succ f ih =>
    intro seen a inv hfree hr hy H
    refine ⟨fun h => (by rw [h] at hr; cases hr), fun j hj => ?_⟩
    have hjn := below_of_ready hs hc hn inv hin (mem_ready.1 hr).1 hj
    refine ⟨hjn, ?_⟩
    by_cases e : j = i
    · subst e; exact hy.qOp ho H
    · have h1 := (H.2 j (ready_mono hj e)).2
      obtain ⟨hju, oj, hoj, hall⟩ := mem_ready.1 hj
      have hwait : ∀ x ∈ oj.after, Region.binds md x = true → x.on ≠ i := fun x hx hb hon => by
        have h2 := hall x hx hb
        rw [hon, getD_both (mem_ready.1 hr).1] at h2
        cases h2
      have h2 := qOp_put hoj (hfree j oj hoj e hju hwait) (fun cs b => Region.noSelect_spec hns i o cs b ho) (fun cs b => Region.noSelect_spec hns j oj cs b hoj) hy h1
      refine qOp_mono (fun a' h3 => ih (seen.setIfInBounds j true) a' (inv.set hj hjn) (fun k ok hk hki hun hno => ?_) (ready_mono hr (Ne.symm e)) h3.1 ?_) h2
      · refine hfree k ok hk hki ?_ hno
        by_cases hjk : j = k
        · subst hjk; exact hju
        · rw [getD_set_ne true hjk] at hun; exact hun
      · rw [Array.setIfInBounds_comm _ _ e]; exact h3.2

/-- The order of the text serves. -/
theorem headIn_lex {n g : Nat} {Lq : Act → Prop} (hns : Region.noSelect ops = true) (hs : Region.sinkB md ops n = true) (hc : Region.chainB md ops n = true) (hn : n < ops.size) :
    ∀ (l : List Oper) (k : Nat) (seen : Array Bool) (a : Act), (∀ j, j < l.length → l[j]? = ops[k + j]?) → k + l.length = n → HeadInv md ops n seen →
    Region.lexHead md ops g l.length k seen = true → wpQuiet P ops C Lq l a →
    headIn P md ops C n (fun seen' a' => Region.seqB md ops g n seen' = true ∧ Lq a') l.length seen a := by
  intro l
  induction l with
  | nil =>
    intro k seen a _ hk _ hB h
    obtain rfl : k = n := by simpa using hk
    exact ⟨by simpa [Region.lexHead] using hB, h⟩
  | cons o l ih =>
    intro k seen a hl hk inv hB h
    have h0 : ops[k]? = some o := by simpa using (hl 0 (by simp)).symm
    simp only [List.length_cons, Region.lexHead, Bool.and_eq_true] at hB
    obtain ⟨⟨hr, hf⟩, hB'⟩ := hB
    have hkn : k < n := by simp only [List.length_cons] at hk; omega
    have hr' : k ∈ Region.ready md ops seen := by simpa using hr
    have hst : qOp P ops C k (wpQuiet P ops C Lq l) a := by unfold qOp; simp only [h0]; exact h
    obtain ⟨v, hy, hK⟩ := yieldsIn_of_qOp h0 hst
    refine headIn_first h0 hns hs hc hn hkn (fun seen' a' hL => seqB_ready hL.1) l.length seen a inv (Region.free_spec h0 hf) hr' hy ?_
    exact ih (k + 1) _ _ (fun j hj => by have := hl (j + 1) (by simp; omega); simpa [Nat.add_assoc, Nat.add_comm 1 j] using this) (by simp only [List.length_cons] at hk; omega) (inv.set hr' hkn) hB' hK

/-- The first n in any order, then the chain. -/
theorem wp_region_head {id : Nat} {Q : Exit → Act → World → Prop} {a : Act} {w : World} {l : List Oper} (n : Nat) (hm : P.follows .mixedOrders = true) (hB : Region.lexTailB .any l.toArray n = true)
    (hC : C { w with drawn := w.drawn + 1 })
    (h : wpQuiet P l.toArray C (fun a' => ∀ w', C w' → wpList P l.toArray Q (l.drop n) a' w') (l.take n) a) : (Code.region id l.toArray true).wp P Q a w := by
  simp only [Region.lexTailB, Bool.and_eq_true, decide_eq_true_eq] at hB
  obtain ⟨⟨⟨⟨hns, hn⟩, hs⟩, hc⟩, hlex⟩ := hB
  have hn' : n < l.length := by simpa using hn
  have htl : (l.take n).length = n := by simp; omega
  have hdl : (l.drop n).length = l.toArray.size - n := by simp
  have inv0 : HeadInv .any l.toArray n (Array.replicate l.toArray.size false) :=
    ⟨by simp, fun j oj _ hl => (by rw [getD_replicate_false] at hl; cases hl), fun t _ ht => getD_in (by simpa using ht) (getD_replicate_false _ _)⟩
  have H := headIn_lex (md := .any) (g := l.toArray.size - n) hns hs hc hn (l.take n) 0 _ a (fun j hj => by
    have hj' : j < n := by rw [htl] at hj; exact hj
    simp [hj']) (by simpa using htl) inv0 (by rw [htl]; exact hlex) h
  refine wp_region_any hm ?_
  have := headIn_any (Q := Q) (g := l.toArray.size - n) (fun seen a' w' hw' hL => by
    have := wpAny_of_seq (md := .any) (Q' := Q) (l.drop n) n seen a' w' (fun j => by simp [List.getElem?_drop]) (by rw [hdl]; exact hL.1) (hL.2 w' hw')
    rwa [hdl] at this) _ _ _ _ hC H
  rw [htl, show n + (l.toArray.size - n) = l.toArray.size by omega] at this
  exact this

end

/-! ### The class: whatever stands over W -/

/-! the greater and the lesser of two numbers, behind names: the walk parts on every 'if' that it finds -/
def mx (a b : Int) : Int := if a < b then b else a
def mn (a b : Int) : Int := if b < a then b else a
theorem mx_eq (a b : Int) : mx a b = max a b := by unfold mx; omega
theorem mn_eq (a b : Int) : mn a b = min a b := by unfold mn; omega
@[go_sem ↓] theorem run_mx {P : Program} {w : World} (ts : Array TypeId) (t : TypeId) (k k' : IntKind) (x y : Int) : (Builtin.max_ ts t #[.int k x, .int k' y]).run P w = .ok (.int k (mx x y)) w := by
  rw [run_max_int2]; rfl
@[go_sem ↓] theorem run_mn {P : Program} {w : World} (ts : Array TypeId) (t : TypeId) (k k' : IntKind) (x y : Int) : (Builtin.min_ ts t #[.int k x, .int k' y]).run P w = .ok (.int k (mn x y)) w := by
  rw [run_min_int2]; rfl

/-! small numbers, as the walk spells them -/
@[simp] theorem lt_add_2 (n : Nat) : n < n + 1 + 1 := by omega
@[simp] theorem lt_add_3 (n : Nat) : n < n + 1 + 1 + 1 := by omega
@[simp] theorem lt_add_4 (n : Nat) : n < n + 1 + 1 + 1 + 1 := by omega
@[simp] theorem lt_add_5 (n : Nat) : n < n + 1 + 1 + 1 + 1 + 1 := by omega
@[simp] theorem lt_add_6 (n : Nat) : n < n + 1 + 1 + 1 + 1 + 1 + 1 := by omega
@[simp] theorem lt_add_7 (n : Nat) : n < n + 1 + 1 + 1 + 1 + 1 + 1 + 1 := by omega
@[simp] theorem lt_add_8 (n : Nat) : n < n + 1 + 1 + 1 + 1 + 1 + 1 + 1 + 1 := by omega
@[simp] theorem lt_add_9 (n : Nat) : n < n + 1 + 1 + 1 + 1 + 1 + 1 + 1 + 1 + 1 := by omega

/-- A world over W: x if x leaves all that is in W as it stood. -/
noncomputable def _root_.Go.World.over (W x : World) : World := @ite _ (Below W.heap.size W x) (Classical.propDecidable _) x W
theorem over_below (W x : World) : Below W.heap.size W (W.over x) := by
  unfold World.over
  by_cases h : Below W.heap.size W x
  · rw [if_pos h]; exact h
  · rw [if_neg h]; exact Below.refl _ _
theorem over_of {W w : World} (h : Below W.heap.size W w) : ∃ x, w = W.over x := ⟨w, by unfold World.over; rw [if_pos h]⟩
@[simp, go_sem] theorem over_cell {W : World} {b : Nat} (h : b < W.heap.size) (x : World) (o : Nat) : (W.over x).cell? ⟨b, o, none⟩ = W.cell? ⟨b, o, none⟩ := Below.cell (p := ⟨b, o, none⟩) (over_below W x) h
@[simp, go_sem] theorem over_frozen {W : World} {b : Nat} (h : b < W.heap.size) (x : World) (o : Nat) : (W.over x).frozen? ⟨b, o, none⟩ = W.frozen? ⟨b, o, none⟩ := Below.frozen (p := ⟨b, o, none⟩) (over_below W x) h

/-- What a call that only makes memory leaves is over W. -/
theorem _root_.Go.Calls.over {P : Program} {f : FuncId} {args : Array Value} {W x : World} {v : Value}
    (h : Calls P f args (W.over x) fun e w' => e = .returned v ∧ Below (W.over x).heap.size (W.over x) w') : Calls P f args (W.over x) fun e w' => e = .returned v ∧ ∃ y, w' = W.over y :=
  h.mono fun _ _ ⟨he, hb⟩ => ⟨he, over_of ((over_below W x).trans (hb.mono (over_below W x).size))⟩
/-- The whole region is quiet over W. -/
theorem wp_region_over {P : Program} {id : Nat} {Q : Exit → Act → World → Prop} {a : Act} {W : World} {l : List Oper} (hm : P.follows .mixedOrders = true) (hB : Region.lexB .any l.toArray = true)
    (h : wpQuiet P l.toArray (fun w' => ∃ x, w' = W.over x) (fun a' => ∀ w', Below W.heap.size W w' → Q .normal a' w') l a) : (Code.region id l.toArray true).wp P Q a W :=
  wp_region_quiet (C := fun w' => ∃ x, w' = W.over x) hm hB (over_of (Below.refl _ _).drew) (by
    have e : (fun a' => ∀ w', (∃ x, w' = W.over x) → Q .normal a' w') = (fun a' => ∀ w', Below W.heap.size W w' → Q .normal a' w') := by
      funext a'
      exact propext ⟨fun h w' hb => h w' (over_of hb), fun h w' ⟨x, hx⟩ => h w' (hx ▸ over_below W x)⟩
    rw [e]
    exact h)

/-- Its first n operations are; the others are a chain. -/
theorem wp_region_over_tail {P : Program} {id : Nat} {Q : Exit → Act → World → Prop} {a : Act} {W : World} {l : List Oper} (n : Nat) (hm : P.follows .mixedOrders = true) (hB : Region.lexTailB .any l.toArray n = true)
    (h : wpQuiet P l.toArray (fun w' => ∃ x, w' = W.over x) (fun a' => ∀ w', Below W.heap.size W w' → wpList P l.toArray Q (l.drop n) a' w') (l.take n) a) : (Code.region id l.toArray true).wp P Q a W :=
  wp_region_head (C := fun w' => ∃ x, w' = W.over x) n hm hB (over_of (Below.refl _ _).drew) (by
    have e : (fun a' => ∀ w', (∃ x, w' = W.over x) → wpList P l.toArray Q (l.drop n) a' w') = (fun a' => ∀ w', Below W.heap.size W w' → wpList P l.toArray Q (l.drop n) a' w') := by
      funext a'
      exact propext ⟨fun h w' hb => h w' (over_of hb), fun h w' ⟨x, hx⟩ => h w' (hx ▸ over_below W x)⟩
    rw [e]
    exact h)

/-- What is known of a world that stands over another one, as rules for the walk. -/
theorem rules {W w1 : World} {n : Nat} (hb : Below n W w1) (hn : n ≤ W.heap.size) : (∀ b o, b < n → w1.cell? ⟨b, o, none⟩ = W.cell? ⟨b, o, none⟩) ∧ (∀ b o, b < n → w1.frozen? ⟨b, o, none⟩ = W.frozen? ⟨b, o, none⟩) ∧ (∀ b, b < n → b < w1.heap.size) :=
  ⟨fun b o h => hb.cell (p := ⟨b, o, none⟩) h, fun b o h => hb.frozen (p := ⟨b, o, none⟩) h, fun _ h => Nat.lt_of_lt_of_le h (Nat.le_trans hn hb.size)⟩
end Go.Proofs.YtbnjbgcadkdljaaGreatDoor

namespace Go.Proofs.YtbnjbgcadkdljaaGreatDoor
open Go.RowKit

theorem ret_int {k : IntKind} {a b : Int} (h : a = b) : Ending.returned (.int k a) = .returned (.int k b) := by rw [h]
theorem ret_bool {a b : Bool} (h : a = b) : Ending.returned (.bool a) = .returned (.bool b) := by rw [h]
theorem below_alloc {w w1 : World} (h : Below w.heap.size w w1) (o : Obj) : Below w.heap.size w (w1.alloc o) := h.alloc h.size o
theorem below_draw {w w1 : World} (h : Below w.heap.size w w1) : Below w.heap.size w w1.drew := h.drew
theorem bset {w w1 : World} {p : Addr} (hp : w.heap.size ≤ p.block) (u : Value) (h : Below w.heap.size w w1) : Below w.heap.size w (w1.setCell p u) := h.setCell hp u
theorem bcall {w w1 w2 : World} {n : Nat} (hb : Below n w1 w2) (hn : w1.heap.size ≤ n) (h : Below w.heap.size w w1) : Below w.heap.size w w2 := h.trans (hb.mono (Nat.le_trans h.size hn))
end Go.Proofs.YtbnjbgcadkdljaaGreatDoor

namespace Go.Proofs.YtbnjbgcadkdljaaGreatDoor
open Go Go.RowKit

theorem wpList_push {P : Program} {ops : Array Oper} {rest : List Oper} {o : Oper} {a : Act} {Q : Exit → Act → World → Prop} {w0 : World} (hgd : o.guard = none) (s x : Operand) (t e : TypeId)
    (ho : o.op = .call { callee := .builtin .append, args := #[s, x], argTypes := #[t, t] }) (ht : P.underlying t = some (.slice e)) (z : Value) (size bytes : Nat)
    (hin : (P.info? e).map (fun i => (i.zero, i.size, i.bytes)) = some (some z, size, bytes)) (hzs : z.cells.size = size) (hsz : 0 < size)
    (v : Value) (n : Nat) (xs : List Value) (hs : a.eval s = v) (B : Nat) (hown : w0.ownsRow B e size v n xs) (E : World) (hE : Below B E w0) (hB : B ≤ w0.heap.size)
    (cs : Array Value) (c b : Nat) (hb : w0.heap.size = b) (hx : a.eval x = .slice (some ⟨b, 0, none⟩) 1 c) (hl : cs.size = size) (h1 : ∀ u ∈ cs.toList, u.oneCell' = true)
    (h63 : n + 1 ≤ maxLen) (hbytes : (n + 1) * bytes ≤ 140737488355328)
    (h : ∀ v' w', w'.ownsRow B e size v' (n + 1) (xs ++ cs.toList) → Below B E w' → B ≤ w'.heap.size → wpList P ops Q rest (a.put o.dst v') w') :
    wpList P ops Q (o :: rest) a (w0.alloc (.cells cs e)) := by
  subst hb
  obtain ⟨i, hi, hz, hz1, hz2⟩ := info_parts hin
  have hBa : B ≤ (w0.alloc (.cells cs e)).heap.size := by simp; omega
  refine wpList_append_own (w0.alloc (.cells cs e)) hgd s x t ho B e i z size bytes ht hi hz hz1 hz2 hzs hsz v n xs hs (hown.alloc _) ⟨w0.heap.size, 0, none⟩ 1 c cs.toList hx (by simpa using hl)
    (World.news_of_block (heap_alloc_new w0 _)) h1 h63 hbytes hBa ?_
  intro v' w' hown' hg _
  refine h v' w' hown' ((hE.alloc hB _).grown hg hBa fun k hk => ?_) (Nat.le_trans hBa hg.size)
  exact (hown.lt k hk).1
end Go.Proofs.YtbnjbgcadkdljaaGreatDoor

namespace Go.Proofs.YtbnjbgcadkdljaaGreatDoor
def nth (zs : List Int) (j : Nat) : Int := zs.getD j 0
theorem nth_lt {zs : List Int} {j : Nat} (h : j < zs.length) : nth zs j = zs[j] := by simp [nth, List.getD, h]
theorem nth_get? {zs : List Int} {j : Nat} (h : j < zs.length) : zs[j]? = some (nth zs j) := by rw [nth_lt h, List.getElem?_eq_getElem h]
theorem nth_take {zs : List Int} {j k : Nat} (h : j < k) : nth (zs.take k) j = nth zs j := by simp [nth, List.getD, List.getElem?_take, h]
theorem nth_app_lt {a b : List Int} {j : Nat} (h : j < a.length) : nth (a ++ b) j = nth a j := by simp [nth, List.getD, List.getElem?_append_left h]
theorem nth_app_eq {a : List Int} {v : Int} : nth (a ++ [v]) a.length = v := by simp [nth, List.getD]
theorem nth_ext {a b : List Int} (hl : a.length = b.length) (h : ∀ j, j < a.length → nth a j = nth b j) : a = b := by
  apply List.ext_getElem hl
  intro j h1 h2
  rw [← nth_lt h1, ← nth_lt h2]; exact h j h1
theorem take_succ_nth {zs : List Int} {k : Nat} (h : k < zs.length) : zs.take (k + 1) = zs.take k ++ [nth zs k] := by
  rw [List.take_add_one, nth_get? h]; rfl
theorem nth_mem {zs : List Int} {j : Nat} (h : j < zs.length) : nth zs j ∈ zs := by rw [nth_lt h]; exact List.getElem_mem h
theorem nth_set_eq {zs : List Int} {k : Nat} {v : Int} (h : k < zs.length) : nth (zs.set k v) k = v := by simp [nth, List.getD, h]
theorem nth_set_ne {zs : List Int} {k j : Nat} {v : Int} (h : k ≠ j) : nth (zs.set k v) j = nth zs j := by simp [nth, List.getD, List.getElem?_set_ne h]
end Go.Proofs.YtbnjbgcadkdljaaGreatDoor

namespace Go.Proofs.YtbnjbgcadkdljaaGreatDoor
open Go Go.RowKit

section
variable {P : Program} {ops : Array Oper} {md : Region.Mode} {Q : Exit → Act → World → Prop} {R : World → Prop}

def Ext (w w' : World) : Prop := Below w.heap.size w w'
theorem Ext.refl_ (w : World) : Ext w w := Below.refl _ _
theorem Ext.trans_ {a b c : World} (h : Ext a b) (k : Ext b c) : Ext a c := Below.trans h (Below.mono k h.size)

def YieldsOver (P : Program) (ops : Array Oper) (R : World → Prop) (o : Oper) (v : Value) (a : Act) : Prop :=
  (Region.wanted o (yielded ops a.tmps) = true ∧ ∀ X, R X → o.quietAt P a (fun w' => Ext X w') X v) ∨
  (Region.wanted o (yielded ops a.tmps) = false ∧ v = undef)
theorem YieldsOver.of_same {o : Oper} {v : Value} {a a' : Act} (hy : YieldsOver P ops R o v a) (he : execOp a'.eval o = execOp a.eval o)
    (hw : Region.wanted o (yielded ops a'.tmps) = Region.wanted o (yielded ops a.tmps)) : YieldsOver P ops R o v a' := by
  unfold YieldsOver Oper.quietAt at *
  rw [he, hw]
  exact hy
theorem YieldsOver.wpOp {i : Nat} {o : Oper} {v : Value} {a : Act} {X : World} (hi : ops[i]? = some o) (hX : R X) (hy : YieldsOver P ops R o v a) {K : Act → World → Prop}
    (h : ∀ w', Ext X w' → K (a.put o.dst v) w') : wpOp P ops Q i K a X := by
  unfold Go.wpOp
  simp only [hi]
  rcases hy with ⟨hw, hv⟩ | ⟨hw, rfl⟩
  · simp only [hw, if_true]
    refine .inl ?_
    have h3 := hv X hX
    unfold Oper.quietAt at h3
    unfold Oper.wp
    generalize (execOp a.eval o).run P X = r at *
    cases r with
    | ok n w' =>
      cases n <;> simp only [Oper.quietUpon] at h3 <;> simp only [Oper.upon]
      case value u =>
        obtain ⟨e1, e2⟩ := h3
        rw [e1, e2]
        exact h _ (Ext.refl_ _)
      case skip =>
        obtain ⟨e1, e2⟩ := h3
        rw [e1, ← e2]
        exact h _ (Ext.refl_ _)
      case enter f args =>
        obtain ⟨e1, hc⟩ := h3
        rw [e1]
        exact hc.mono fun e w'' ⟨he, hw''⟩ => by subst he; exact h _ hw''
    | halt x w' => simp only [Oper.quietUpon] at h3
  · simp only [hw, Bool.false_eq_true, if_false]; exact h _ (Ext.refl_ _)

theorem wpOp_putOver {j : Nat} {oi oj : Oper} {v : Value} (hj : ops[j]? = some oj) (hap : oi.apart ops oj = true)
    (hsi : ∀ cs b, oi.op ≠ .select cs b) (hsj : ∀ cs b, oj.op ≠ .select cs b)
    (hQ : ∀ c a w, Q (.panic c) (a.put oi.dst v) w → Q (.panic c) a w) {K : Act → World → Prop} {a : Act} {w : World}
    (hy : YieldsOver P ops R oi v a) (h : wpOp P ops Q j K (a.put oi.dst v) w) :
    wpOp P ops Q j (fun a' w' => YieldsOver P ops R oi v a' ∧ K (a'.put oi.dst v) w') a w := by
  obtain ⟨h1, h2, h3⟩ := Oper.apart_spec hap
  have keep : ∀ (a : Act), YieldsOver P ops R oi v a → ∀ u, YieldsOver P ops R oi v (a.put oj.dst u) := fun a hy u =>
    hy.of_same (execOp_put oi hsi a oj.dst u h3) (wanted_put oi a oj.dst u h3)
  have keepD : ∀ d, YieldsOver P ops R oi v { a with defers := d :: a.defers } := fun d => hy.of_same rfl rfl
  unfold wpOp at *
  simp only [hj] at *
  rw [wanted_put oj a oi.dst v h1] at h
  split
  · rename_i hw
    simp only [hw, if_true] at h
    rcases h with h | ⟨hasks, hlets⟩
    case inr => exact .inr ⟨by unfold Oper.asks at *; rw [execOp_put oj hsj a oi.dst v h1] at hasks; exact hasks, hlets⟩
    refine .inl ?_
    unfold Oper.wp at *
    rw [execOp_put oj hsj a oi.dst v h1] at h
    generalize (execOp a.eval oj).run P w = r at *
    cases r with
    | ok n w' =>
      cases n <;> simp only [Oper.upon] at h ⊢
      case value u => exact ⟨keep a hy u, by rw [← Act.put_comm a v u h2]; exact h⟩
      case skip => exact ⟨keep a hy _, by rw [← Act.put_comm a v undef h2]; exact h⟩
      case defer d =>
        refine ⟨keep _ (keepD d) _, ?_⟩
        rw [← Act.put_comm _ v undef h2, ← Act.put_defers]
        exact h
      case enter f args =>
        refine Calls.mono h fun e w'' he => ?_
        cases e with
        | returned u => exact ⟨keep a hy u, by rw [← Act.put_comm a v u h2]; exact he⟩
        | panicked c => exact hQ _ _ _ he
        | outgrown => exact he
      case row row args => exact Rows.mono h fun u w'' he => ⟨keep a hy u, by rw [← Act.put_comm a v u h2]; exact he⟩
    | halt x w' =>
      cases x <;> simp only [Oper.upon] at h ⊢
      case panic u => exact hQ _ _ _ h
  · rename_i hw
    simp only [hw] at h
    exact ⟨keep a hy _, by rw [← Act.put_comm a v undef h2]; exact h⟩

/-- Whatever order is picked from here on, and however the world grows between any two. -/
def wpAnyE (P : Program) (md : Region.Mode) (ops : Array Oper) (Q : Exit → Act → World → Prop) (R : World → Prop) : Nat → Array Bool → Act → World → Prop
  | 0, seen, a, w => ∀ X, Ext w X → Region.ready md ops seen = [] ∧ Q .normal a X
  | f + 1, seen, a, w => ∀ X, Ext w X → (Region.ready md ops seen = [] → Q .normal a X) ∧
      ∀ i ∈ Region.ready md ops seen, wpOp P ops Q i (fun a' w' => R w' ∧ wpAnyE P md ops Q R f (seen.setIfInBounds i true) a' w') a X
theorem wpAnyE.ext {f : Nat} {seen : Array Bool} {a : Act} {w w' : World} (h : wpAnyE P md ops Q R f seen a w) (hw : Ext w w') : wpAnyE P md ops Q R f seen a w' := by
  cases f <;> exact fun X hX => h X (hw.trans_ hX)
theorem wpAny_of_E : ∀ (f : Nat) (seen : Array Bool) (a : Act) (w : World), wpAnyE P md ops Q R f seen a w → wpAny P md ops Q f seen a w
  | 0, _, _, w, h => h w (Ext.refl_ w)
  | f + 1, _, _, w, h => ⟨(h w (Ext.refl_ w)).1, fun i hi => wpOp_mono (fun _ _ h' => wpAny_of_E f _ _ _ h'.2) ((h w (Ext.refl_ w)).2 i hi)⟩

theorem wpAnyE_first {i : Nat} {oi : Oper} {v : Value} (hi : ops[i]? = some oi) (hsel : ∀ (j : Nat) (o : Oper) cs b, ops[j]? = some o → o.op ≠ .select cs b) (hQ : ∀ c a w, ¬ Q (.panic c) a w) (hRx : ∀ X X', R X → Ext X X' → R X') :
    ∀ (f : Nat) (seen : Array Bool) (a : Act) (w : World), R w →
      (∀ j oj, ops[j]? = some oj → j ≠ i → seen.getD j true = false → (∀ e ∈ oj.after, Region.binds md e = true → e.on ≠ i) → oi.apart ops oj = true) →
      i ∈ Region.ready md ops seen → YieldsOver P ops R oi v a →
      wpAnyE P md ops Q R f (seen.setIfInBounds i true) (a.put oi.dst v) w → wpAnyE P md ops Q R (f + 1) seen a w := by
  intro f
  induction f with
  | zero =>
    intro seen a w hw _ hr hy H X hX
    refine ⟨fun h => (by rw [h] at hr; cases hr), fun j hj => ?_⟩
    by_cases hji : j = i
    · subst hji; exact hy.wpOp hi (hRx _ _ hw hX) fun w' hw' => ⟨hRx _ _ (hRx _ _ hw hX) hw', H.ext (hX.trans_ hw')⟩
    · have := ready_mono hj hji
      rw [(H X hX).1] at this
      cases this
  | succ f ih =>
    intro seen a w hw hfree hr hy H X hX
    refine ⟨fun h => (by rw [h] at hr; cases hr), fun j hj => ?_⟩
    by_cases hji : j = i
    · subst hji; exact hy.wpOp hi (hRx _ _ hw hX) fun w' hw' => ⟨hRx _ _ (hRx _ _ hw hX) hw', H.ext (hX.trans_ hw')⟩
    · have h1 := (H X hX).2 j (ready_mono hj hji)
      obtain ⟨hjun, oj, hoj, hall⟩ := mem_ready.1 hj
      have hnot : ∀ e ∈ oj.after, Region.binds md e = true → e.on ≠ i := fun e he hb heq => by
        have h1 := hall e he hb
        have h0 := (mem_ready.1 hr).1
        rw [heq] at h1
        rcases Nat.lt_or_ge i seen.size with h' | h'
        · simp [h'] at h0 h1; rw [h0] at h1; cases h1
        · simp [Array.getElem?_eq_none h'] at h1
      have h2 := wpOp_putOver hoj (hfree j oj hoj hji hjun hnot) (fun cs b => hsel i oi cs b hi) (fun cs b => hsel j oj cs b hoj) (fun c a w h => absurd h (hQ c _ w)) hy h1
      have hfree' : ∀ k ok, ops[k]? = some ok → k ≠ i → (seen.setIfInBounds j true).getD k true = false →
          (∀ e ∈ ok.after, Region.binds md e = true → e.on ≠ i) → oi.apart ops ok = true := fun k ok hk hki hun hno => by
        refine hfree k ok hk hki ?_ hno
        by_cases hjk : j = k
        · subst hjk; exact hjun
        · rw [getD_set_ne true hjk] at hun; exact hun
      refine wpOp_mono (fun a' w' h3 => ⟨h3.2.1, ih (seen.setIfInBounds j true) a' w' h3.2.1 hfree' (ready_mono hr (Ne.symm hji)) h3.1 ?_⟩) h2
      rw [Array.setIfInBounds_comm _ _ hji]
      exact h3.2.2

/-! ### H, then T -/
def seqBy (md : Region.Mode) (ops : Array Oper) : List Nat → Array Bool → Bool
  | [], seen => (Region.ready md ops seen).isEmpty
  | k :: ts, seen => decide (Region.ready md ops seen = [k]) && seqBy md ops ts (seen.setIfInBounds k true)
def lexBy (md : Region.Mode) (ops : Array Oper) (ts : List Nat) : List Nat → Array Bool → Bool
  | [], seen => seqBy md ops ts seen
  | k :: hs, seen => (Region.ready md ops seen).contains k && Region.free md ops seen k && lexBy md ops ts hs (seen.setIfInBounds k true)
def dstsB (ops : Array Oper) : List Nat → Bool
  | [] => true
  | k :: hs => (match (ops[k]?).bind (·.dst) with | some t => hs.all (fun j => (ops[j]?).bind (·.dst) != some t) | none => false) && dstsB ops hs
def twoB (ops : Array Oper) (hs ts : List Nat) : Bool := Region.noSelect ops && decide (hs.length + ts.length = ops.size) && dstsB ops hs && lexBy .any ops ts hs (Array.replicate ops.size false)
def roomB (ops : Array Oper) (hs : List Nat) (n : Nat) : Bool := hs.all fun k => match (ops[k]?).bind (·.dst) with | some t => decide (t < n) | none => false
def pick (l : List Oper) : List Nat → List Oper
  | [] => []
  | k :: hs => match l[k]? with | some o => o :: pick l hs | none => pick l hs

/-- T, one by one, however the world grows between any two. -/
def wpHav (P : Program) (ops : Array Oper) (Q : Act → World → Prop) (R : World → Prop) : List Oper → Act → World → Prop
  | [], a, w => Q a w
  | o :: rest, a, w => wpList P ops (fun e a' w' => e = .normal ∧ R w' ∧ ∀ X, Below w'.heap.size w' X → wpHav P ops Q R rest a' X) [o] a w

theorem wp_calm {o : Oper} {a : Act} {w : World} {K K' : Act → World → Prop} {Q' : Exit → Act → World → Prop} (h : ∀ e a w, Q e a w → e = .normal) (hK : ∀ a w, K a w → K' a w) (hh : o.wp P a w K Q) : o.wp P a w K' Q' := by
  refine Oper.wp_mono hK ?_
  unfold Oper.wp at *
  generalize (execOp a.eval o).run P w = r at *
  cases r with
  | ok n w' =>
    cases n <;> simp only [Oper.upon] at hh ⊢
    case value u => exact hh
    case skip => exact hh
    case defer d => exact hh
    case enter f args =>
      refine Calls.mono hh fun e w'' he => ?_
      cases e with
      | returned u => exact he
      | panicked c => exact nomatch h _ _ _ he
      | outgrown => obtain ⟨a, w, hq⟩ := he; exact nomatch h _ _ _ hq
    case row row args => exact hh
  | halt x w' =>
    cases x <;> simp only [Oper.upon] at hh ⊢
    case panic u => exact nomatch h _ _ _ hh

theorem wpAnyE_of_hav {l : List Oper} {Q0 : Act → World → Prop} : ∀ (ts : List Nat) (seen : Array Bool) (a : Act) (w : World), seqBy md l.toArray ts seen = true →
    (∀ X, Ext w X → wpHav P l.toArray Q0 R (pick l ts) a X) → wpAnyE P md l.toArray (fun e a w => e = .normal ∧ Q0 a w) R ts.length seen a w
  | [], seen, a, w, hB, h => fun X hX => ⟨by simpa [seqBy] using hB, rfl, h X hX⟩
  | k :: ts, seen, a, w, hB, h => by
    simp only [seqBy, Bool.and_eq_true, decide_eq_true_eq] at hB
    intro X hX
    refine ⟨fun h1 => (by rw [hB.1] at h1; cases h1), fun i hi => ?_⟩
    have hi0 := hi
    rw [hB.1] at hi
    obtain rfl : i = k := by simpa using hi
    obtain ⟨_, o, ho, _⟩ := mem_ready.1 hi0
    have h1 := h X hX
    have hl : l[i]? = some o := by simpa using ho
    simp only [pick, hl] at h1
    unfold wpHav at h1
    unfold wpOp
    simp only [ho]
    by_cases hw : Region.wanted o (yielded l.toArray a.tmps) = true
    · simp only [hw, if_true]
      unfold wpList at h1
      rw [if_pos hw] at h1
      rcases h1 with h1 | ⟨_, a1, w1, hlet⟩
      · refine .inl (wp_calm (fun e a w hq => hq.1) (fun a' w' h2 => ?_) h1)
        unfold wpList at h2
        exact ⟨h2.2.1, wpAnyE_of_hav ts _ a' w' hB.2 h2.2.2⟩
      · exact nomatch hlet.1
    · simp only [hw]
      unfold wpList at h1
      rw [if_neg hw] at h1
      unfold wpList at h1
      exact ⟨h1.2.1, wpAnyE_of_hav ts _ _ _ hB.2 h1.2.2⟩

/-- this very frame -/
def SameAct (aF a : Act) : Prop := a = aF
theorem sameAct (a : Act) : SameAct a a := rfl
theorem put_size (a : Act) (d : Option Tmp) (v : Value) : (a.put d v).tmps.size = a.tmps.size := by
  unfold Act.put; cases d <;> simp
theorem put_other (a : Act) (d : Option Tmp) (v : Value) (t : Nat) (h : d ≠ some t) : (a.put d v).tmps[t]? = a.tmps[t]? := by
  unfold Act.put
  cases d with
  | none => rfl
  | some e => exact Array.getElem?_setIfInBounds_ne (fun h' => h (by rw [h']))
theorem quiet_keeps {C : World → Prop} {aF : Act} {t : Nat} : ∀ (l : List Oper) (a : Act), (∀ o ∈ l, o.dst ≠ some t) → wpQuiet P ops C (SameAct aF) l a → aF.tmps[t]? = a.tmps[t]?
  | [], a, _, h => by
    unfold wpQuiet SameAct at h
    rw [h]
  | o :: l, a, hd, h => by
    unfold wpQuiet at h
    split at h
    · obtain ⟨v, _, h⟩ := h
      rw [quiet_keeps l _ (fun o' ho' => hd o' (List.mem_cons_of_mem _ ho')) h, put_other _ _ _ _ (hd o List.mem_cons_self)]
    · rw [quiet_keeps l _ (fun o' ho' => hd o' (List.mem_cons_of_mem _ ho')) h, put_other _ _ _ _ (hd o List.mem_cons_self)]
theorem mem_pick {l : List Oper} {o : Oper} : ∀ {hs : List Nat}, o ∈ pick l hs → ∃ j ∈ hs, l[j]? = some o
  | [], h => by cases h
  | k :: hs, h => by
    unfold pick at h
    split at h
    · rename_i o' ho
      rcases List.mem_cons.1 h with h | h
      · subst h
        exact ⟨k, List.mem_cons_self, ho⟩
      · obtain ⟨j, hj, e⟩ := mem_pick h
        exact ⟨j, List.mem_cons_of_mem _ hj, e⟩
    · obtain ⟨j, hj, e⟩ := mem_pick h
      exact ⟨j, List.mem_cons_of_mem _ hj, e⟩

theorem wpAnyE_lex {l : List Oper} {ts : List Nat} {Q0 : Act → World → Prop} {aF : Act} (hs0 : Region.noSelect l.toArray = true) (hRx : ∀ X X', R X → Ext X X' → R X') (X1 : World) (hX1 : R X1) : ∀ (hs : List Nat) (seen : Array Bool) (a : Act) (w : World), R w →
    lexBy md l.toArray ts hs seen = true → dstsB l.toArray hs = true → roomB l.toArray hs a.tmps.size = true →
    (∀ X, R X → wpQuiet P l.toArray (fun w' => ∃ x, w' = X.over x) (SameAct aF) (pick l hs) a) →
    (∀ X, Ext w X → wpHav P l.toArray Q0 R (pick l ts) aF X) →
    wpAnyE P md l.toArray (fun e a w => e = .normal ∧ Q0 a w) R (hs.length + ts.length) seen a w
  | [], seen, a, w, hw, hB, _, _, h, ht => by
    have e : a = aF := by have := h X1 hX1; unfold pick wpQuiet SameAct at this; exact this
    subst e
    rw [List.length_nil, Nat.zero_add]
    exact wpAnyE_of_hav ts seen a w hB ht
  | k :: hs, seen, a, w, hw, hB, hD, hR, h, ht => by
    simp only [lexBy, Bool.and_eq_true] at hB
    obtain ⟨⟨hr, hf⟩, hB'⟩ := hB
    have hr' : k ∈ Region.ready md l.toArray seen := by simpa using hr
    obtain ⟨_, o, ho, _⟩ := mem_ready.1 hr'
    have hl : l[k]? = some o := by simpa using ho
    simp only [dstsB, ho, Option.bind_some, Bool.and_eq_true] at hD
    simp only [roomB, List.all_cons, ho, Option.bind_some, Bool.and_eq_true] at hR
    obtain ⟨hD1, hD2⟩ := hD
    obtain ⟨hR1, hR2⟩ := hR
    cases hd : o.dst with
    | none => rw [hd] at hD1; cases hD1
    | some t =>
      rw [hd] at hD1 hR1
      simp only [decide_eq_true_eq] at hR1
      have hother : ∀ o' ∈ pick l hs, o'.dst ≠ some t := fun o' ho' => by
        obtain ⟨j, hj, e⟩ := mem_pick ho'
        have := List.all_eq_true.1 hD1 j hj
        simp only [List.getElem?_toArray, e, Option.bind_some, bne_iff_ne, ne_eq] at this
        exact this
      have hst : ∀ X, R X → ∃ v, YieldsIn P l.toArray (fun w' => ∃ x, w' = X.over x) o v a ∧ wpQuiet P l.toArray (fun w' => ∃ x, w' = X.over x) (SameAct aF) (pick l hs) (a.put o.dst v) ∧ aF.tmps[t]? = some v := fun X hX => by
        have h1 := h X hX
        simp only [pick, hl] at h1
        have h2 : qOp P l.toArray (fun w' => ∃ x, w' = X.over x) k (wpQuiet P l.toArray (fun w' => ∃ x, w' = X.over x) (SameAct aF) (pick l hs)) a := by
          unfold qOp; simp only [ho]; exact h1
        obtain ⟨v, hy, hK⟩ := yieldsIn_of_qOp ho h2
        refine ⟨v, hy, hK, ?_⟩
        rw [quiet_keeps _ _ hother hK, hd]
        unfold Act.put
        simp [hR1]
      obtain ⟨v, hy0, _, hv⟩ := hst X1 hX1
      have hall : ∀ X, R X → YieldsIn P l.toArray (fun w' => ∃ x, w' = X.over x) o v a ∧ wpQuiet P l.toArray (fun w' => ∃ x, w' = X.over x) (SameAct aF) (pick l hs) (a.put o.dst v) := fun X hX => by
        obtain ⟨v', hy', hK', hv'⟩ := hst X hX
        have : v' = v := by rw [hv] at hv'; exact (Option.some.inj hv').symm
        subst this
        exact ⟨hy', hK'⟩
      have hy : YieldsOver P l.toArray R o v a := by
        by_cases hwt : Region.wanted o (yielded l.toArray a.tmps) = true
        · refine .inl ⟨hwt, fun X hX => ?_⟩
          rcases (hall X hX).1 with ⟨_, h1⟩ | ⟨h1, _⟩
          · have h2 := h1 X (over_of (Below.refl _ _))
            unfold Oper.quietAt at *
            generalize (execOp a.eval o).run P X = r at *
            cases r with
            | ok n w' =>
              cases n <;> simp only [Oper.quietUpon] at h2 ⊢
              case value u => exact h2
              case skip => exact h2
              case enter f args => exact ⟨h2.1, h2.2.mono fun e w'' ⟨he, x, hx⟩ => ⟨he, hx ▸ over_below X x⟩⟩
            | halt x w' => simp only [Oper.quietUpon] at h2
          · rw [hwt] at h1; cases h1
        · rcases hy0 with ⟨h1, _⟩ | ⟨h1, h2⟩
          · exact absurd h1 hwt
          · exact .inr ⟨h1, h2⟩
      rw [show (k :: hs).length + ts.length = (hs.length + ts.length) + 1 by simp only [List.length_cons]; omega]
      exact wpAnyE_first ho (Region.noSelect_spec hs0) (fun c a w hq => nomatch hq.1) hRx (hs.length + ts.length) seen a w hw (Region.free_spec ho hf) hr' hy
        (wpAnyE_lex hs0 hRx X1 hX1 hs _ _ w hw hB' hD2 (by rw [put_size]; exact hR2) (fun X hX => (hall X hX).2) ht)

theorem wpAny_monoQ {Q' : Exit → Act → World → Prop} (hQ : ∀ e a w, Q e a w → Q' e a w) (hc : ∀ e a w, Q e a w → e = .normal) : ∀ (f : Nat) (seen : Array Bool) (a : Act) (w : World), wpAny P md ops Q f seen a w → wpAny P md ops Q' f seen a w
  | 0, _, _, _, h => ⟨h.1, hQ _ _ _ h.2⟩
  | f + 1, _, _, _, h => ⟨fun h0 => hQ _ _ _ (h.1 h0), fun i hi => by
      have h1 := h.2 i hi
      unfold wpOp at *
      split
      · rename_i ho; simp only [ho] at h1; exact wpAny_monoQ hQ hc f _ _ _ h1
      · rename_i o ho
        simp only [ho] at h1
        split
        · rename_i hw
          simp only [hw, if_true] at h1
          rcases h1 with h1 | ⟨_, a1, w1, hlet⟩
          · exact .inl (wp_calm hc (fun a w h2 => wpAny_monoQ hQ hc f _ _ _ h2) h1)
          · exact nomatch hc _ _ _ hlet
        · rename_i hw
          simp only [hw] at h1
          exact wpAny_monoQ hQ hc f _ _ _ h1⟩

/-- H in the order of the text, then T; R: what T keeps. -/
theorem wp_region_two' {id : Nat} {a : Act} {l : List Oper} {W : World} (hs ts : List Nat) (aF : Act) (R : World → Prop) (hR0 : ∀ X, Below W.heap.size W X → R X) (hRx : ∀ X X', R X → Ext X X' → R X') (hm : P.follows .mixedOrders = true) (hB : twoB l.toArray hs ts = true) (hR : roomB l.toArray hs a.tmps.size = true)
    (h1 : ∀ X, R X → wpQuiet P l.toArray (fun w' => ∃ x, w' = X.over x) (SameAct aF) (pick l hs) a)
    (h2 : ∀ X, Below W.heap.size W X → wpHav P l.toArray (fun a w => Q .normal a w) R (pick l ts) aF X) : (Code.region id l.toArray true).wp P Q a W := by
  simp only [twoB, Bool.and_eq_true, decide_eq_true_eq] at hB
  obtain ⟨⟨⟨hs0, hlen⟩, hD⟩, hL⟩ := hB
  refine wp_region_any hm ?_
  have h0 : R { W with drawn := W.drawn + 1 } := hR0 _ (Below.refl _ _).drew
  have h3 := wpAny_monoQ (Q := fun e a w => e = .normal ∧ Q .normal a w) (Q' := Q) (fun e a w h => by obtain ⟨rfl, h⟩ := h; exact h) (fun e a w h => h.1) _ _ _ _ (wpAny_of_E (R := R) _ _ _ _
    (wpAnyE_lex hs0 hRx _ h0 hs _ a _ h0 hL hD hR h1 fun X hX => h2 X ((Below.refl _ W).drew.trans hX)))
  rw [hlen] at h3
  exact h3
theorem grown_below {W X : World} (h : Below W.heap.size W X) (row : Option Nat) : W.grownBy X row := ⟨h.os, h.tape, h.output, h.size, fun i hi _ => h.block i hi⟩
theorem grown_tr {a b c : World} {row : Option Nat} (h : a.grownBy b row) (k : b.grownBy c row) : a.grownBy c row :=
  ⟨k.os.trans h.os, k.tape.trans h.tape, k.output.trans h.output, Nat.le_trans h.size k.size, fun i hi hne => (k.block i (Nat.lt_of_lt_of_le hi h.size) hne).trans (h.block i hi hne)⟩
end
end Go.Proofs.YtbnjbgcadkdljaaGreatDoor

namespace Go.Proofs.YtbnjbgcadkdljaaGreatDoor
open Go Go.RowKit

/-- the slice (A, n, any capacity) reads as these numbers -/
def Ints (k : IntKind) (w : World) (A : Option Addr) (n : Nat) (zs : List Int) : Prop :=
  zs.length = n ∧ (0 < n → ∃ b off, A = some ⟨b, off, none⟩ ∧ b < w.heap.size ∧ ∀ j, j < n → w.cell? ⟨b, off + j, none⟩ = some (.int k (nth zs j)))
section
variable {k : IntKind} {w w' : World} {A : Option Addr} {n : Nat} {zs : List Int}
theorem Ints.len (h : Ints k w A n zs) : zs.length = n := h.1
theorem Ints.at_ {i : Nat} (h : Ints k w A n zs) (hi : i < n) : ∃ b off, A = some ⟨b, off, none⟩ ∧ b < w.heap.size ∧ w.cell? ⟨b, off + i, none⟩ = some (.int k (nth zs i)) := by
  obtain ⟨b, off, e, hb, hc⟩ := h.2 (by omega)
  exact ⟨b, off, e, hb, hc i hi⟩
theorem Ints.cell {b off i : Nat} (h : Ints k w (some ⟨b, off, none⟩) n zs) (hi : i < n) : b < w.heap.size ∧ w.cell? ⟨b, off + i, none⟩ = some (.int k (nth zs i)) := by
  obtain ⟨b', off', e, hb, hc⟩ := h.at_ hi
  cases e
  exact ⟨hb, hc⟩
theorem Ints.keep (h : Ints k w A n zs) (hs : w.heap.size ≤ w'.heap.size) (hk : ∀ p : Addr, p.block < w.heap.size → w'.cell? p = w.cell? p) : Ints k w' A n zs :=
  ⟨h.1, fun hn => by
    obtain ⟨b, off, e, hb, hc⟩ := h.2 hn
    exact ⟨b, off, e, by omega, fun j hj => (hk _ hb).trans (hc j hj)⟩⟩
theorem Ints.below {B : Nat} (h : Ints k w A n zs) (hB : w.heap.size ≤ B) (hb : Below B w w') : Ints k w' A n zs := h.keep hb.size fun _ hp => hb.cell (by omega)
theorem Ints.nil_ (w : World) (A : Option Addr) : Ints k w A 0 [] := ⟨rfl, fun h => by omega⟩
end

theorem add_addr (g j : Nat) : (⟨g, 0, none⟩ : Addr).add j = ⟨g, j, none⟩ := by unfold Addr.add; split <;> simp_all
theorem own_open {w : World} {B : Nat} {e : TypeId} {size : Nat} {v : Value} {n : Nat} {xs : List Value} (h : w.ownsRow B e size v n xs) (hn : 0 < n) :
    ∃ g cap, v = .slice (some ⟨g, 0, none⟩) n cap ∧ B ≤ g ∧ g < w.heap.size ∧ ∀ j u, xs[j]? = some u → w.cell? ⟨g, j, none⟩ = some u := by
  have hlt := h.lt
  have h0 := h
  obtain ⟨_, ⟨_, rfl⟩ | ⟨g, cap, cur, hv, hg, _⟩⟩ := h
  · omega
  · subst hv
    obtain ⟨h1, h2⟩ := hlt g rfl
    refine ⟨g, cap, rfl, hg, h2, fun j u hu => ?_⟩
    have := h0.cells (g := g) rfl j u hu
    rwa [add_addr] at this
theorem own_form {w : World} {B : Nat} {e : TypeId} {size : Nat} {v : Value} {n : Nat} {xs : List Value} (h : w.ownsRow B e size v n xs) : ∃ A cap, v = .slice A n cap ∧ n ≤ cap ∧ cap ≤ maxLen := by
  obtain ⟨_, ⟨rfl, rfl⟩ | ⟨g, cap, cur, rfl, _, _, hc, hm, _⟩⟩ := h
  · exact ⟨none, 0, rfl, Nat.le_refl _, Nat.zero_le _⟩
  · exact ⟨_, cap, rfl, hc, hm⟩
theorem own_keep {w w' : World} {B b : Nat} {e : TypeId} {size : Nat} {v : Value} {n : Nat} {xs : List Value} (h : w.ownsRow B e size v n xs) (hb : Below b w w') (hB : w.heap.size ≤ b) : w'.ownsRow B e size v n xs := by
  obtain ⟨h1, h2 | ⟨g, cap, cur, hv, hg, hh, r⟩⟩ := h
  · exact ⟨h1, .inl h2⟩
  · have hlt : g < w.heap.size := by
      rcases Nat.lt_or_ge g w.heap.size with hlt | hge
      · exact hlt
      · rw [Array.getElem?_eq_none hge] at hh; cases hh
    exact ⟨h1, .inr ⟨g, cap, cur, hv, hg, (hb.block g (by omega)).trans hh, r⟩⟩
theorem own_ints {k : IntKind} {w : World} {B : Nat} {e : TypeId} {A : Option Addr} {n cap : Nat} {zs : List Int} (h : w.ownsRow B e 1 (.slice A n cap) n (zs.map (Value.int k))) : Ints k w A n zs := by
  have hl : zs.length = n := by have := h.1; simpa using this
  refine ⟨hl, fun hn => ?_⟩
  obtain ⟨g, cap', hv, _, hg, hc⟩ := own_open h hn
  injection hv with hA
  refine ⟨g, 0, hA, hg, fun j hj => ?_⟩
  rw [Nat.zero_add]
  exact hc j _ (by rw [List.getElem?_map, nth_get? (show j < zs.length by omega)]; rfl)

/-! ### two rows of the call's own, of which one is appended to -/
def Apart (u v : Value) : Prop := ∀ k, u.ownBlock = some k → v.ownBlock ≠ some k
theorem Apart.symm {u v : Value} (h : Apart u v) : Apart v u := fun k hk hu => h k hu hk
/-! ### a slice of numbers that the call made, whole: block g, its head, n of n -/
def OwnI (k : IntKind) (e : TypeId) (w : World) (B g n : Nat) (zs : List Int) : Prop := w.ownsRow B e 1 (.slice (some ⟨g, 0, none⟩) n n) n (zs.map (Value.int k))
section
variable {k : IntKind} {e : TypeId} {w w' : World} {B g n : Nat} {zs : List Int}
theorem OwnI.len (h : OwnI k e w B g n zs) : zs.length = n := by have := h.1; simpa using this
theorem OwnI.lt (h : OwnI k e w B g n zs) : B ≤ g ∧ g < w.heap.size := World.ownsRow.lt h g rfl
theorem OwnI.cell (h : OwnI k e w B g n zs) {j : Nat} (hj : j < n) : w.cell? ⟨g, j, none⟩ = some (.int k (nth zs j)) := by
  rw [World.ownsRow.cellAt h j (by omega), List.getElem?_map, nth_get? (by rw [h.len]; exact hj)]; rfl
theorem OwnI.free (h : OwnI k e w B g n zs) (j : Nat) : w.frozen? ⟨g, j, none⟩ = false := World.ownsRow.frozenAt h j
theorem OwnI.set_ (h : OwnI k e w B g n zs) (j : Nat) (v : Int) : OwnI k e (w.setCell ⟨g, j, none⟩ (.int k v)) B g n (zs.set j v) := by
  have := (World.ownsRow.stored h j (.int k v)).1
  rw [← List.map_set] at this
  exact this
theorem OwnI.keep {b : Nat} (h : OwnI k e w B g n zs) (hb : Below b w w') (hB : w.heap.size ≤ b) : OwnI k e w' B g n zs := own_keep h hb hB
theorem OwnI.ints (h : OwnI k e w B g n zs) : Ints k w (some ⟨g, 0, none⟩) n zs := own_ints h
theorem made_one (z : Value) : ∀ n : Nat, (madeCells #[z] n).toList = List.replicate n z := fun n => by
  apply List.ext_getElem
  · simp [madeCells]
  · intro i h1 h2
    simp [madeCells, Nat.mod_one]
theorem ownI_make (k : IntKind) (e : TypeId) (w : World) (B n : Nat) (hB : B ≤ w.heap.size) (hm : n ≤ maxLen) : OwnI k e (w.alloc (.cells (madeCells #[.int k 0] n) e)) B w.heap.size n (List.replicate n 0) := by
  have := World.ownsRow_lit (e := e) (size := 1) w (madeCells #[.int k 0] n) n hB hm (by simp [madeCells])
  rw [made_one] at this
  unfold OwnI
  rw [List.map_replicate]
  exact this
theorem fill_set {a : List Int} {m : Nat} {v : Int} : (a ++ List.replicate (m + 1) 0).set a.length v = (a ++ [v]) ++ List.replicate m 0 := by
  rw [List.set_append_right _ _ (Nat.le_refl _), Nat.sub_self, List.replicate_succ, List.set_cons_zero, List.append_assoc]; rfl
theorem fill_at {a : List Int} {k n : Nat} {v : Int} (ha : a.length = k) (h : k < n) : (a ++ List.replicate (n - k) 0).set k v = (a ++ [v]) ++ List.replicate (n - (k + 1)) 0 := by
  subst ha
  have e : n - a.length = (n - (a.length + 1)) + 1 := by omega
  rw [e]
  exact fill_set
end

section
open Go.ChangeShapes Go.WideShapes
variable {H : Type} {enc : TypeId × Value → H} {P : Program} {w : World}
/-- an argument that is a slice of numbers -/
theorem ints_of_trod {k : IntKind} {t e : TypeId} {a : Option Addr} {len cap : Nat} {d : DataW H} {p : List MemPlace} (ht : P.underlying t = some (.slice e)) (he : P.underlying e = some (.int k)) (hc : P.cellsOf e = 1)
    (h : DataW.Trod enc P w 0 (fun _ => true) true t (.slice a len cap) d p) (hlt : ∀ x ∈ p, x.block < w.heap.size) :
    len ≤ cap ∧ cap ≤ maxLen ∧ ∃ zs, Ints k w a len zs ∧ ∀ z ∈ zs, (Lit.int k z).wf = true := by
  obtain ⟨fuel, hf⟩ := h
  rcases open_ints ht he hc hf with ⟨hcs, _⟩ | ⟨a', len', cap', zs, hcs, _, hl, hm, hz, hx, hcell, hwz⟩
  · simp [Value.cells] at hcs
    obtain ⟨rfl, rfl, rfl⟩ := hcs
    exact ⟨Nat.le_refl _, Nat.zero_le _, [], Ints.nil_ _ _, by simp⟩
  · simp [Value.cells] at hcs
    obtain ⟨rfl, rfl, rfl⟩ := hcs
    simp only [if_true] at hz
    have hp : p = MemPlace.row a' zs.length := (Prod.mk.inj hx).2
    refine ⟨hl, hm, zs.take len, ⟨by simp; omega, fun hn => ?_⟩, fun z hz => hwz z (List.mem_of_mem_take hz)⟩
    have h0 := hcell 0 (by omega)
    have hs : a'.spot = none := by
      have h1 : a'.add 0 = a' := by simp [Addr.add]
      rw [h1] at h0
      unfold World.cell? at h0
      split at h0
      · split at h0
        · cases h0
        · rename_i h2; simpa using h2
      · cases h0
    refine ⟨a'.block, a'.off, by cases a'; simp_all, ?_, fun j hj => ?_⟩
    · have h1 : MemPlace.cell a'.block a'.off ∈ p := by rw [hp]; exact MemPlace.mem_row.2 ⟨0, by omega, by simp⟩
      exact hlt _ h1
    · have h1 := hcell j (by omega)
      have e1 : a'.add j = ⟨a'.block, a'.off + j, none⟩ := by
        unfold Addr.add
        split
        · rename_i hj0; subst hj0; cases a'; simp_all
        · rfl
      rw [e1] at h1
      rw [h1, nth_take hj]
      rfl
end
end Go.Proofs.YtbnjbgcadkdljaaGreatDoor
