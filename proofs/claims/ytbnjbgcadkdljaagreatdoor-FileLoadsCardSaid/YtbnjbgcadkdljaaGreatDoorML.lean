/- Texts as one: In, In2, In3. -/
import Derived.Test.YtbnjbgcadkdljaaGreatDoorMC
import Derived.Lib.BufferMore
import Derived.OrdersIn
import Derived.OwnWalkIn
import Derived.RangeFuncCalls
import Derived.RangeFuncFrom
import Derived.RangeFuncNested
import Derived.RangeFuncLeaves
set_option linter.unusedVariables false
set_option linter.unusedSimpArgs false
namespace Go.Proofs.YtbnjbgcadkdljaaGreatDoor
open Go Go.RowKit
def noDefer (o : Oper) : Bool := match o.op with | .defer _ => false | _ => true
theorem noDefer_ne {o : Oper} (h : noDefer o = true) : ∀ c, o.op ≠ .defer c := fun c e => by unfold noDefer at h; rw [e] at h; cases h
section
variable {P : Program} {n : Nat} {o : Oper} {a : Act} {w : World} {K : Act → World → Prop} {Q : Exit → Act → World → Prop} {l : Nat}
theorem wp_wpIn (hd : noDefer o = true) (h : o.wp P a w K Q) : o.wpIn (Fence.wide.inRound l) n P a w K Q := by
  refine ⟨fun _ _ => trivial, ?_⟩
  rw [Oper.semAt_plain _ _ _ (noDefer_ne hd)]
  unfold Oper.wp at h
  generalize (execOp a.eval o).run P w = r at *
  cases r with
  | ok x w' =>
    cases x with
    | value v => exact h
    | skip => exact h
    | defer d => exact h
    | enter f args => exact ⟨fun q => by simp [Fence.wide] at q, callsIn_wide.2 h⟩
    | row r args => exact ⟨fun q => by simp [Fence.wide] at q, fun c cs _ => let ⟨v, w', r, s⟩ := h c cs; ⟨v, w', r, stepsIn_wide.2 s⟩⟩
    | _ => exact False.elim h
  | halt x w' => cases x <;> first | exact h | exact False.elim h
theorem wpOp_in {ops : Array Oper} {i : Nat} (hq : ¬ LetsOut Q) (hd : ∀ o, ops[i]? = some o → noDefer o = true) (h : wpOp P ops Q i K a w) : wpOpIn (Fence.wide.inRound l) n P ops Q i K a w := by
  unfold wpOp at h
  unfold wpOpIn
  cases ho : ops[i]? with
  | none => rw [ho] at h; exact h
  | some o =>
    rw [ho] at h
    simp only at h ⊢
    by_cases hw : Region.wanted o (yielded ops a.tmps) = true
    · rw [if_pos hw] at h ⊢
      rcases h with h | ⟨_, h⟩
      · exact wp_wpIn (hd o ho) h
      · exact absurd h hq
    · rw [if_neg hw] at h ⊢
      exact ⟨fun _ _ => trivial, h⟩
theorem wpAny_in {ops : Array Oper} {md : Region.Mode} (hq : ¬ LetsOut Q) (hd : ops.all noDefer = true) : ∀ (fuel : Nat) (listed : Array Bool) (a : Act) (w : World), wpAny P md ops Q fuel listed a w → wpAnyIn (Fence.wide.inRound l) n P md ops Q fuel listed a w
  | 0, _, _, _, h => h
  | fuel + 1, listed, a, w, h => ⟨h.1, fun i hi => wpOpIn_mono (fun a w h => wpAny_in hq hd fuel _ a w h) (wpOp_in hq (fun o ho => by
      have := Array.all_eq_true_iff_forall_mem.1 hd o (Array.mem_of_getElem? ho)
      exact this) (h.2 i hi))⟩
theorem wpIn_region_tree {id : Nat} {a : Act} {l : List Oper} {rd : Nat} {W : World} (hs : List Nat) (t : Tr) (aF : Act) (R : World → Prop) (hR0 : ∀ X, Below W.heap.size W X → R X) (hRx : ∀ X X', R X → Ext X X' → R X') (hm : P.follows .mixedOrders = true) (hB : twoT l.toArray hs t = true) (hR : roomB l.toArray hs a.tmps.size = true) (hd : l.toArray.all noDefer = true)
    (h1 : ∀ X, R X → wpQuiet P l.toArray (fun w' => ∃ x, w' = X.over x) (SameAct aF) (pick l hs) a)
    (h2 : ∀ X, Below W.heap.size W X → wpTree P l (fun a w => Q .normal a w) R t aF X) : (Code.region id l.toArray true).wpIn (Fence.wide.inRound rd) n P Q a W := by
  simp only [twoT, Bool.and_eq_true, decide_eq_true_eq] at hB
  obtain ⟨⟨⟨hs0, hlen⟩, hD⟩, hL⟩ := hB
  have h0 : R { W with drawn := W.drawn + 1 } := hR0 _ (Below.refl _ _).drew
  have h3 := wpAny_of_E (R := R) _ _ _ _ (wpAnyE_lexT hs0 hRx _ h0 hs _ a _ h0 hL hD hR h1 fun X hX => h2 X ((Below.refl _ W).drew.trans hX))
  rw [hlen] at h3
  refine wpIn_mono (wpIn_region_any hm (wpAny_in (Q := fun e a w => e = .normal ∧ Q .normal a w) (fun ⟨_, _, q, _⟩ => by cases q) hd _ _ _ _ h3)) (fun e a w q => by obtain ⟨rfl, q⟩ := q; exact q)
theorem wpList_in {ops : Array Oper} {rd : Nat} (hq : ¬ LetsOut Q) : ∀ (r : List Oper) (a : Act) (w : World), r.all noDefer = true → wpList P ops Q r a w → wpListIn (Fence.wide.inRound rd) n P ops Q r a w
  | [], _, _, _, h => h
  | o :: r, a, w, hd, h => by
    simp only [List.all_cons, Bool.and_eq_true] at hd
    unfold wpList at h
    unfold wpListIn
    by_cases hw : Region.wanted o (yielded ops a.tmps) = true
    · rw [if_pos hw] at h ⊢
      rcases h with h | ⟨_, h⟩
      · exact Oper.wpIn_mono (fun a w h => wpList_in hq r a w hd.2 h) (wp_wpIn hd.1 h)
      · exact absurd h hq
    · rw [if_neg hw] at h ⊢
      exact ⟨fun _ _ => trivial, wpList_in hq r _ w hd.2 h⟩
end
section
variable {P : Program} {n m : Nat} {L : Fr} {w : World} {Q : Exit → Act → World → Prop} {rd : Nat}
/-- code in a round -/
def CwI (P : Program) (n m rd : Nat) (Q : Exit → Act → World → Prop) (c : Code) (L : Fr) (w : World) : Prop := ∀ a, Rep n L a → c.wpIn (Fence.wide.inRound rd) m P Q a w
theorem cwI_block {id : Nat} {c : Code} (h : CwI P n m rd (Exit.inBlock id Q) c L w) : CwI P n m rd Q (.block id c) L w := fun a ha => wpIn_block (h a ha)
theorem cwI_reg {id : Nat} {l : List Oper} (hd : l.all noDefer = true) (h : Reg P n l.toArray (fun e a w => e = .normal ∧ Q .normal a w) l L w) : CwI P n m rd Q (.region id l.toArray false) L w := fun a ha =>
  wpIn_mono (wpIn_region_lit (wpList_in (Q := fun e a w => e = .normal ∧ Q .normal a w) (fun ⟨_, _, q, _⟩ => by cases q) l a w hd (h a ha))) (fun e a w q => by obtain ⟨rfl, q⟩ := q; exact q)
theorem cwI_drawT {id : Nat} {l : List Oper} {w0 : World} {ob : List Ob} {L : Fr} (H : HS w0 w ob) (hs : List Nat) (t : Tr) {lR : List Ob} (hp : ∀ X, HS w0 X ob → HS w0 X lR) (hm : P.follows .mixedOrders = true) (hB : twoT l.toArray hs t = true) (hR : roomB l.toArray hs n = true) (hd : l.toArray.all noDefer = true)
    (h : Hk P n l.toArray (fun X => HS w0 X lR) (TreeK P n Q w0 ob lR l t) (pick l hs) L) : CwI P n m rd Q (.region id l.toArray true) L w := fun a ha => by
  obtain ⟨aF, Lf, hF, ⟨L0, ds, K, hle, hT, hK⟩, hq⟩ := hk_quiet (fun X X' h k => h.ext k) _ _ h a ha
  refine wpIn_region_tree hs t aF (fun X => HS w0 X lR) (fun X hX => hp X (H.ext hX)) (fun X X' h k => h.ext k) hm hB (by rw [ha.size]; exact hR) hd hq (fun X hX => ?_)
  exact tree_mono (fun a w ⟨M, hr, hk⟩ => hK M w hk a hr) t aF X (hT X (H.ext hX) aF (le_rep hle hF))
/-- the region that holds the call of yield -/
def RegW (P : Program) (n m : Nat) (ops : Array Oper) (Q : Exit → Act → World → Prop) (l : List Oper) (L : Fr) (w : World) : Prop := ∀ a, Rep n L a → wpListIn Fence.wide m P ops Q l a w
theorem cw_regW {id : Nat} {l : List Oper} (h : RegW P n m l.toArray Q l L w) : Cw P n Q (.region id l.toArray false) L w := fun a ha => wpIn_wide.1 (wpIn_region_lit (h a ha))
theorem rw_nil {ops : Array Oper} (h : Fin n Q .normal L w) : RegW P n m ops Q [] L w := fun a ha => h a ha
theorem rw_yd {ops : Array Oper} {o : Oper} {r : List Oper} {v : Value} (h : Yd P n L o v w) (hg : o.guard = none) (hd : dok n o.dst = true) (hf : noDefer o = true) (k : RegW P n m ops Q r (up L o.dst v) w) : RegW P n m ops Q (o :: r) L w := fun a ha => by
  unfold wpListIn
  have hw : Region.wanted o (yielded ops a.tmps) = true := by unfold Region.wanted; rw [hg]
  rw [if_pos hw]
  refine ⟨fun _ _ => trivial, ?_⟩
  rw [Oper.semAt_plain _ _ _ (noDefer_ne hf), h a ha]
  exact k _ (ha.put hd v)
theorem rw_yield {ops : Array Oper} {o : Oper} {r : List Oper} {x : Operand} {xs : List Operand} {ts : Array TypeId} {vs : List Value} {l : Nat} {R : Ending → World → Prop} (ho : o.op = .call { callee := .value x, args := xs.toArray, argTypes := ts }) (hx : ev L x = some (.func (.yield l) #[] #[])) (ha : evl L xs vs)
    (hy : YieldAt Fence.wide (m - 1) P l vs.toArray w R) (hR : ∀ e w', R e w' → ∃ v, e = .returned v) (hg : o.guard = none) (hd : dok n o.dst = true) (k : ∀ v w', R (.returned v) w' → RegW P n m ops Q r (up L o.dst v) w') : RegW P n m ops Q (o :: r) L w := fun a hr => by
  unfold wpListIn
  have hw : Region.wanted o (yielded ops a.tmps) = true := by unfold Region.wanted; rw [hg]
  rw [if_pos hw]
  refine ⟨fun _ _ => trivial, ?_⟩
  rw [Oper.semAt_plain _ _ _ (fun c e => by rw [ho] at e; cases e)]
  obtain ⟨fn, tmps, assign, body, e1, e2⟩ := hy
  have e : (execOp a.eval o).run P w = .ok (.round l fn tmps assign body) w := by
    unfold execOp
    simp [ho, resolve, evl_map hr ha, hr.ev hx, Deferred.ofValue, invoke, e1]
  rw [e]
  refine ⟨fun q => by simp [Fence.wide] at q, RoundIn.mono e2 fun e w' hR' => ?_⟩
  obtain ⟨v, rfl⟩ := hR _ _ hR'
  exact k v w' hR' _ (hr.put hd v)
/-- behind the loop: the activation has a mark -/
def RegD (P : Program) (n : Nat) (ds : List Deferred) (ops : Array Oper) (Q : Exit → Act → World → Prop) (l : List Oper) (L : Fr) (w : World) : Prop := ∀ a, Rep n L a → wpList P ops Q l { a with defers := ds } w
theorem rd_nil {ds : List Deferred} {ops : Array Oper} (h : ∀ a, Rep n L a → Q .normal { a with defers := ds } w) : RegD P n ds ops Q [] L w := fun a ha => wpList_nil (h a ha)
theorem rd_yd {ds : List Deferred} {ops : Array Oper} {o : Oper} {r : List Oper} {v : Value} (h : Yd P n L o v w) (hg : o.guard = none) (hd : dok n o.dst = true) (k : RegD P n ds ops Q r (up L o.dst v) w) : RegD P n ds ops Q (o :: r) L w := fun a ha => by
  refine wpList_plain hg fun K' hK' => ?_
  unfold Oper.wp
  have e : (execOp ({ a with defers := ds } : Act).eval o).run P w = .ok (.value v) w := h a ha
  rw [e]
  have e2 : ({ a with defers := ds } : Act).put o.dst v = { a.put o.dst v with defers := ds } := by cases o.dst <;> rfl
  refine hK' _ _ ?_
  rw [e2]
  exact k _ (ha.put hd v)
end
end Go.Proofs.YtbnjbgcadkdljaaGreatDoor

namespace Go.Proofs.YtbnjbgcadkdljaaGreatDoor
open Go Go.RowKit
def othersAb (W : World) (B0 : Nat) : Ab where
  ok B X := B ≤ B0 ∧ W.heap.size ≤ X.heap.size ∧ ∀ k o, B0 ≤ k → W.heap[k]? = some o → o.isCells = false → X.heap[k]? = some o
  has k := B0 ≤ k ∧ ∃ o, W.heap[k]? = some o ∧ o.isCells = false
  lt := fun B X h k hk => ⟨Nat.le_trans h.1 hk.1, by obtain ⟨o, h1, h2⟩ := hk.2; exact heap_lt (h.2.2 k o hk.1 h1 h2)⟩
  keep := fun B X X' row h hg hne => ⟨h.1, Nat.le_trans h.2.1 hg.size, fun k o h1 h2 h3 => by
    have h4 := h.2.2 k o h1 h2 h3
    rw [hg.block k (heap_lt h4) (fun e => hne k ⟨h1, o, h2, h3⟩ e.symm)]; exact h4⟩
  mono := fun B B' X h hB => ⟨Nat.le_trans hB h.1, h.2⟩
def notAbs : Ob → Bool
  | .abs _ => false
  | _ => true
theorem Ob.cells_of {B : Nat} {w : World} {o : Ob} {k : Nat} {x : Obj} (h : o.ok B w) (hn : notAbs o = true) (hk : o.has k) (hx : w.heap[k]? = some x) : x.isCells = true := by
  cases o with
  | blk b cs T =>
    obtain rfl : b = k := Option.some.inj hk
    obtain ⟨_, h⟩ := h
    unfold Blk at h
    rw [h] at hx; cases hx; rfl
  | row A n cap xs e size =>
    obtain ⟨_, _, _, h | ⟨g, cur, rfl, _, h, _⟩⟩ := (h : Own _ _ _ _ _ _ _ _)
    · subst h; exact absurd (show (none : Option Nat) = some k from hk) (by simp)
    · have hk' : (if cap = 0 then none else some g) = some k := hk
      split at hk'
      · cases hk'
      · obtain rfl := Option.some.inj hk'
        rw [h] at hx; cases hx; rfl
  | ro b xs =>
    obtain rfl : b = k := Option.some.inj hk
    obtain ⟨_, cur, T, fr, h, _⟩ := (h : Ro _ _ _ _)
    rw [h] at hx; cases hx; rfl
  | abs A => cases hn
theorem HS.others {w0 W : World} {l : List Ob} (h : HS w0 W l) (hn : l.all notAbs = true) : HS w0 W (.abs (othersAb W w0.heap.size) :: l) :=
  h.cons ⟨Nat.le_refl _, Nat.le_refl _, fun _ _ _ h _ => h⟩ fun o' ho' k hk hk' => by
    obtain ⟨_, o, h1, h2⟩ := hk
    have := Ob.cells_of (h.own o' ho') (List.all_eq_true.1 hn o' ho') hk' h1
    rw [this] at h2; cases h2
theorem HS.keeps {w0 W W' : World} {l l' : List Ob} (h : HS w0 W l) (h' : HS w0 W' (.abs (othersAb W w0.heap.size) :: l')) : KeepsOthers W W' := by
  have hk : (othersAb W w0.heap.size).ok w0.heap.size W' := h'.own _ List.mem_cons_self
  refine ⟨hk.2.1, fun k o h1 h2 => ?_⟩
  rcases Nat.lt_or_ge k w0.heap.size with q | q
  · rw [h'.base.block k q, ← h.base.block k q]; exact h1
  · exact hk.2.2 k o q h1 h2
end Go.Proofs.YtbnjbgcadkdljaaGreatDoor

namespace Go.Proofs.YtbnjbgcadkdljaaGreatDoor
open Go Go.RowKit
section
variable {P : Program} {n : Nat} {L : Fr} {w : World}
theorem ini_rep {fn : Func} {args : List Value} (hn : fn.ntmps = n) (hle : Nat.ble args.length n = true) : Rep n (ini 0 args) { tmps := args.toArray ++ Array.replicate (fn.ntmps - args.toArray.size) undef, defers := [] } := by
  subst hn
  have hle' : args.length ≤ fn.ntmps := Nat.le_of_ble_eq_true hle
  refine ⟨by simp; omega, rfl, fun t v e => ?_⟩
  obtain ⟨_, h2⟩ := ini_lk args 0 t v e
  rw [Nat.sub_zero] at h2
  have : t < args.length := by
    rcases Nat.lt_or_ge t args.length with h | h
    · exact h
    · rw [List.getElem?_eq_none h] at h2; cases h2
  rw [Array.getElem?_append_left (by simpa using this)]
  simpa using h2
theorem ret_enterM {f : FuncId} {fn : Func} {c : Code} {args : List Value} {R : Value → World → Prop} (hf : P.funcs[f]? = some fn) (hb : fn.body = some c) (hn : fn.ntmps = n) (hle : Nat.ble args.length n = true)
    (h : Cw P n (bodyPostM Fence.wide 3 P fn (fun e w' => ∃ v, e = .returned v ∧ R v w')) c (ini 0 args) w) : Ret P f args w R :=
  callsIn_wide.1 (callsIn_of_wp_marks (n := 3) (F := Fence.wide) hf hb trivial (wpIn_wide.2 (h _ (ini_rep hn hle))))
theorem mark_ret {fn : Func} {R : Value → World → Prop} {a : Act} {D : Nat} {t : Tmp} {v : Value} (ha : Rep n L a) (hr : fn.results = #[.tmp t]) (hv : lk L t = some v) (hD : w.heap[D]? = some (.deferred (some []))) (h : R v (w.putObj D (.deferred none))) :
    bodyPostM Fence.wide 3 P fn (fun e w' => ∃ v, e = .returned v ∧ R v w') .ret { a with defers := [{ target := .collected D, args := #[] }] } w := by
  refine ⟨by simp, .inl ⟨D, _, rfl, run_takeDeferred hD, ?_⟩⟩
  refine ⟨v, ?_, v, rfl, h⟩
  have := res_all (P := P) (w := w.putObj D (.deferred none)) (fn := fn) (vs := [v]) ha (by rw [hr]; exact ⟨hv, trivial⟩)
  simpa using this
end
end Go.Proofs.YtbnjbgcadkdljaaGreatDoor
