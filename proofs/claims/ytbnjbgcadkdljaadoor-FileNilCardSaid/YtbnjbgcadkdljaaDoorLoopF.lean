/- The loop over the runs, for its callers. -/
import Derived.Test.YtbnjbgcadkdljaaDoorIter0
import Derived.Shelf.Abstract
set_option linter.unusedVariables false
set_option linter.unusedSimpArgs false
namespace Go.Proofs.YtbnjbgcadkdljaaDoor
open Go Go.RowKit
section
variable {P : Program} {n : Nat} {L : Fr} {w : World} {Q : Exit → Act → World → Prop} {ds : List Deferred}
/-- code behind the loop: the activation has a mark -/
def CwD (P : Program) (n : Nat) (ds : List Deferred) (Q : Exit → Act → World → Prop) (c : Code) (L : Fr) (w : World) : Prop := ∀ a, Rep n L a → c.wp P Q { a with defers := ds } w
def FinD (n : Nat) (ds : List Deferred) (Q : Exit → Act → World → Prop) (e : Exit) (L : Fr) (w : World) : Prop := ∀ a, Rep n L a → Q e { a with defers := ds } w
theorem fd_next {y : Code} (h : CwD P n ds Q y L w) : FinD n ds (Exit.then (y.wp P Q) Q) .normal L w := h
theorem fd_block {id : Nat} (h : FinD n ds Q .normal L w) : FinD n ds (Exit.inBlock id Q) .normal L w := h
theorem fd_then_ret {f : Act → World → Prop} (h : FinD n ds Q .ret L w) : FinD n ds (Exit.then f Q) .ret L w := h
theorem cd_seq {x y : Code} (h : CwD P n ds (Exit.then (y.wp P Q) Q) x L w) : CwD P n ds Q (x.seq y) L w := fun a ha => wp_seq (h a ha)
theorem cd_reg {id : Nat} {l : List Oper} (h : RegD P n ds l.toArray Q l L w) : CwD P n ds Q (.region id l.toArray false) L w := fun a ha => wp_region_lit (h a ha)
theorem cd_ret (h : FinD n ds Q .ret L w) : CwD P n ds Q .ret L w := fun a ha => wp_ret (h a ha)
theorem cd_end {ops : Array Oper} (h : FinD n ds Q .normal L w) : RegD P n ds ops Q [] L w := rd_nil h
end
theorem HS.abides {w0 W W' : World} {l : List Ob} {row : Option Nat} (h : HS w0 W l) (hn : l.all notAbs = true) (hg : W.grownBy W' row) (hr : ∀ r, row = some r → w0.heap.size ≤ r ∧ ∃ o : Obj, W.heap[r]? = some o ∧ o.isCells = false) : HS w0 W' l :=
  ⟨h.base.grown hg h.base.size (fun k e => (hr k e).1), fun o ho => Ob.keep (h.own o ho) hg (fun k hk e => by
    obtain ⟨_, x, h1, h2⟩ := hr k e
    rw [Ob.cells_of (h.own o ho) (List.all_eq_true.1 hn o ho) hk h1] at h2; cases h2), h.apart⟩
theorem HS.shut {w0 W : World} {l : List Ob} {D : Nat} {o o' : Obj} (h : HS w0 W l) (hn : l.all notAbs = true) (hD : w0.heap.size ≤ D) (ho : W.heap[D]? = some o) (hc : o.isCells = false) : HS w0 (W.putObj D o') l :=
  h.abides hn (grownBy_putObj' W D o') (fun r e => by cases e; exact ⟨hD, o, ho, hc⟩)
/-- an object whose cells are of another type -/
def okT (T : TypeId) : Ob → Bool
  | .blk _ _ T' => !(Nat.beq T' T)
  | .row _ _ _ _ e _ => !(Nat.beq e T)
  | _ => false
theorem okT_abs {T : TypeId} {o : Ob} (h : okT T o = true) : notAbs o = true := by cases o <;> first | rfl | cases h
theorem okT_all {T : TypeId} {l : List Ob} (h : l.all (okT T) = true) : l.all notAbs = true := List.all_eq_true.2 fun o ho => okT_abs (List.all_eq_true.1 h o ho)
theorem okT_has {B b : Nat} {w : World} {cs : List Value} {T : TypeId} {o : Ob} (h : o.ok B w) (ht : okT T o = true) (hb : Blk w b cs T) : ¬ o.has b := fun hk => by
  unfold Blk at hb
  have no : ∀ x : Nat, (!(Nat.beq x T)) = true → x ≠ T := fun x hx e => by subst e; simp at hx
  cases o with
  | blk b' cs' T' =>
    obtain rfl : b' = b := Option.some.inj hk
    obtain ⟨_, h⟩ := h
    unfold Blk at h
    rw [h] at hb
    cases hb
    exact no _ ht rfl
  | row A n cap xs e size =>
    obtain ⟨_, _, _, h | ⟨g, cur, rfl, _, h, _⟩⟩ := (h : Own _ _ _ _ _ _ _ _)
    · subst h; exact absurd (show (none : Option Nat) = some b from hk) (by simp)
    · have hk' : (if cap = 0 then none else some g) = some b := hk
      split at hk'
      · cases hk'
      · obtain rfl := Option.some.inj hk'
        rw [h] at hb; cases hb
        exact no _ ht rfl
  | ro b' xs => cases ht
  | abs A => cases ht
theorem HS.consT {w0 W : World} {l : List Ob} {b : Nat} {cs : List Value} {T : TypeId} (h : HS w0 W l) (hB : w0.heap.size ≤ b) (hb : Blk W b cs T) (ht : l.all (okT T) = true) : HS w0 W (.blk b cs T :: l) :=
  h.cons ⟨hB, hb⟩ fun o ho k hk => by
    obtain rfl : b = k := Option.some.inj hk
    exact okT_has (h.own o ho) (List.all_eq_true.1 ht o ho) hb
theorem below_of {w0 W W' : World} (h : Below w0.heap.size w0 W) (h' : Below w0.heap.size w0 W') (hs : W.heap.size ≤ W'.heap.size) : Below w0.heap.size W W' :=
  ⟨h'.os.trans h.os.symm, h'.tape.trans h.tape.symm, h'.output.trans h.output.symm, hs, fun k hk => (h'.block k hk).trans (h.block k hk).symm⟩
def runC (r : Run) : List Value := [.int .i64 (r.1.1 : Int), .int .i64 r.1.2]
abbrev runT : TypeId := 104
abbrev kOb (kb : Nat) (A : Option Addr) (n cap : Nat) : Ob := .blk kb [.slice A n cap] 39
theorem itK_of {w W W' : World} {kb n cap : Nat} {A : Option Addr} {l l' : List Ob} {i j : Nat} (h : HS w W l) (h' : HS w W' l') (hi : l[i]? = some (kOb kb A n cap)) (hj : l'[j]? = some (kOb kb A n cap)) (hs : W.heap.size ≤ W'.heap.size) : ItK w kb W W' := by
  refine ⟨below_of h.base h'.base hs, fun v hv => ?_⟩
  obtain ⟨b, off, e, hlt, hc⟩ := hv 0 v rfl
  cases e
  have h1 := h.cell (j := 0) hi rfl
  rw [Nat.zero_add] at hc
  rw [hc] at h1
  cases h1
  exact (h'.at_ hj).2.rd
theorem run_put {n p : Nat} {L : Fr} {a : Act} {v : Value} (ha : Rep n L a) (hp : Nat.blt p n = true) : Rep n ((p, v) :: L) { tmps := ((#[p] : Array Tmp).zip #[v]).foldl (fun t (p, v) => t.setIfInBounds p v) a.tmps, defers := [] } := by
  have h := ha.put (d := some p) hp v
  have e : a.put (some p) v = { tmps := ((#[p] : Array Tmp).zip #[v]).foldl (fun t (p, v) => t.setIfInBounds p v) a.tmps, defers := [] } := by
    simp [Act.put, ha.defers]
  rw [e] at h; exact h
set_option maxHeartbeats 1000000 in
theorem cw_runs {nt : Nat} {L : Fr} {Q : Exit → Act → World → Prop} {g : Operand} {p t : Nat} {assign body : Code} {w wL : World} {kb n cap : Nat} {A : Option Addr} {zs : List Int}
    (hr : Rd w A (vi .i64 zs)) (hl : zs.length = n) (hn : n ≤ 2000000) (hI : allI zs) (G : List Run → List Ob → Prop) (hG : ∀ pre l, G pre l → l.all (okT runT) = true) {l0 : List Ob} (H0 : HS w wL (kOb kb A n cap :: l0)) (hG0 : G [] l0)
    (hg : ev L g = some (.func (.func 58) #[] #[.pointer (some ⟨kb, 0, none⟩)])) (hp : Nat.blt p nt = true)
    (hAs : ∀ rd pre (x : Run) W l, G pre l → HS w W (.abs (othersAb W w.heap.size) :: kOb kb A n cap :: l) → CwI Tryd.prog nt 2 rd (fun e a' W' => e = .normal ∧ ∃ b, Rep nt ((t, .pointer (some ⟨b, 0, none⟩)) :: (p, runV x) :: L) a' ∧ HS w W' (.blk b (runC x) runT :: .abs (othersAb W w.heap.size) :: kOb kb A n cap :: l)) assign ((p, runV x) :: L) W)
    (hBo : ∀ rd pre (x : Run) W l b, G pre l → pre.length < (rnl zs 0).length → HS w W (.abs (othersAb W w.heap.size) :: .blk b (runC x) runT :: kOb kb A n cap :: l) → CwI Tryd.prog nt 2 rd (fun e a' W' => e = .normal ∧ ∃ l', G (pre ++ [x]) l' ∧ HS w W' (.abs (othersAb W w.heap.size) :: kOb kb A n cap :: l')) body ((t, .pointer (some ⟨b, 0, none⟩)) :: (p, runV x) :: L) W)
    (hD : ∀ D xs W l, rvals xs = rnl zs 0 → G xs l → HS w W (kOb kb A n cap :: l) → HS w (W.putObj D (.deferred none)) (kOb kb A n cap :: l) → W.heap[D]? = some (.deferred (some [])) → FinD nt [{ target := .collected D, args := #[] }] Q .normal L W) :
    Cw Tryd.prog nt Q (.rangeFunc g #[p] assign body) L wL := by
  intro a ha
  have hkl : Rd wL (some ⟨kb, 0, none⟩) [.slice A n cap] := (H0.at_ (i := 0) rfl).2.rd
  have hkb : kb < wL.heap.size := (H0.at_ (i := 0) rfl).2.lt
  have hkT : okT runT (kOb kb A n cap) = true := rfl
  have hall : ∀ pre l, G pre l → (kOb kb A n cap :: l).all notAbs = true := fun pre l h => by
    rw [List.all_cons, okT_all (hG pre l h)]; rfl
  refine wpIn_wide.1 (wpIn_rangeFunc_ownH (n := 4) (F := Fence.wide) rfl (by decide) (gf := 58) (lb := #[.pointer (some ⟨kb, 0, none⟩)]) (ha.ev hg) trivial (enters_of Tryd.func58 (by kernel_rfl) rfl)
    (iterOf w wL kb n cap A zs hr hl hn hI hkl H0.base) ?kt ?kb (Below.refl _ _) (fun _ => rfl)
    (fun pre W => ∃ l, G pre l ∧ HS w W (kOb kb A n cap :: l)) (fun _ _ _ => False) ?own (fun _ _ _ _ _ hs _ _ => hs) ⟨l0, hG0, H0⟩
    (fun x a' W => ∃ b, w.heap.size ≤ b ∧ Blk W b (runC x) runT ∧ Rep nt ((t, .pointer (some ⟨b, 0, none⟩)) :: (p, runV x) :: L) a') ?ax ?asg ?bo ?done (fun _ _ _ _ _ _ h _ => h.elim))
  case kt => exact fun h k => ⟨h.1.trans k.1, fun v hv => k.2 v (h.2 v hv)⟩
  case kb =>
    intro W l o o' hlt hh hc hw
    refine ⟨belowK_b H0.base.size W l o o' hlt hh hc hw, fun v hv => ?_⟩
    intro j u hu
    obtain ⟨b, off, e, h1, h2⟩ := hv j u hu
    cases e
    refine ⟨kb, 0, rfl, by simpa using h1, ?_⟩
    rw [World.cell?_of_block (w' := W.putObj l o') (w := W) (by exact (grownBy_putObj' W l o').block kb h1 (fun e => by cases e; omega))]
    exact h2
  case own =>
    intro pre W W' row ⟨l, h1, h2⟩ hg' hr'
    exact ⟨l, h1, h2.abides (hall _ _ h1) hg' (fun r e => ⟨Nat.le_trans H0.base.size (hr' r e).1, (hr' r e).2⟩)⟩
  case ax =>
    intro x a' _ W W' row ⟨b, h1, h2, h3⟩ hg' hr'
    refine ⟨b, h1, ?_, h3⟩
    unfold Blk at h2 ⊢
    rw [hg'.block b (heap_lt h2) (fun e => by obtain ⟨_, o, h4, h5⟩ := hr' b e.symm; rw [h2] at h4; cases h4; cases h5)]
    exact h2
  case asg =>
    intro rd pre x W K ⟨l, h1, h2⟩ hK
    refine wpIn_mono (hAs rd pre x W l h1 (h2.others (hall _ _ h1)) _ (run_put ha hp)) ?_
    rintro e a' W' ⟨rfl, b, hR, H⟩
    have hk := h2.keeps (l' := _) H.tail
    exact hK a' W' (hk.from _) (itK_of (i := 0) (j := 2) h2 H rfl rfl hk.size) ⟨l, h1, H.tail.tail⟩ ⟨b, (H.at_ (i := 0) rfl).1, (H.at_ (i := 0) rfl).2, hR⟩
  case bo =>
    rintro rd pre x a' W _ _ ⟨l, h1, h2⟩ ⟨b, hb, hB, hR⟩ hlt
    have h3 : HS w W (.blk b (runC x) runT :: kOb kb A n cap :: l) := h2.consT hb hB (by rw [List.all_cons, hkT, hG pre l h1]; rfl)
    have h4 := h3.others (by rw [List.all_cons, hall _ _ h1]; rfl)
    refine wpIn_mono (hBo rd pre x W l b h1 hlt h4 a' hR) ?_
    rintro e a' W' ⟨rfl, l', hg', H⟩
    have hk := h2.keeps (l' := _) H
    exact ⟨hk.from _, itK_of (i := 0) (j := 1) h2 H rfl rfl hk.size, l', hg', H.tail⟩
  case done =>
    rintro D xs W hDs hS ⟨l, h1, h2⟩ hK
    have := hD D xs W l hS h1 h2 (h2.shut (hall _ _ h1) (Nat.le_trans H0.base.size hDs) hK rfl) hK a ha
    rw [ha.defers]; exact this
end Go.Proofs.YtbnjbgcadkdljaaDoor
