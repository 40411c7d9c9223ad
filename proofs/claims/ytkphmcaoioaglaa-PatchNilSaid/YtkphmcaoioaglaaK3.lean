/- Memory of the call's own, as a list of objects; reading, making, writing. -/
import Derived.Test.YtkphmcaoioaglaaK2
import Derived.Test.YtkphmcaoioaglaaWords
import Derived.Laws.AppendOwnNone
import Derived.Laws.MakeOwn
set_option linter.unusedVariables false
set_option linter.unusedSimpArgs false
namespace Go.Proofs.Ytkphmcaoioaglaa
open Go Go.RowKit

/-- the memory at A reads as these cells -/
def Rd (w : World) (A : Option Addr) (xs : List Value) : Prop := ∀ j u, xs[j]? = some u → ∃ b off, A = some ⟨b, off, none⟩ ∧ b < w.heap.size ∧ w.cell? ⟨b, off + j, none⟩ = some u
theorem Rd.below {w w' : World} {A : Option Addr} {xs : List Value} (h : Rd w A xs) (hb : Below w.heap.size w w') : Rd w' A xs := fun j u hu => by
  obtain ⟨b, off, e, hlt, hc⟩ := h j u hu
  exact ⟨b, off, e, Nat.lt_of_lt_of_le hlt hb.size, (hb.cell (p := ⟨b, off + j, none⟩) hlt).trans hc⟩
def Blk (w : World) (b : Nat) (cs : List Value) (T : TypeId) : Prop := w.heap[b]? = some (.cells cs.toArray T (0, 0))
theorem Blk.cell {w : World} {b : Nat} {cs : List Value} {T : TypeId} (h : Blk w b cs T) {j : Nat} {v : Value} (hj : cs[j]? = some v) : w.cell? ⟨b, j, none⟩ = some v := by
  rw [cell_of_row w b j _ T _ h]; simpa using hj
theorem Blk.lt {w : World} {b : Nat} {cs : List Value} {T : TypeId} (h : Blk w b cs T) : b < w.heap.size := by
  rcases Nat.lt_or_ge b w.heap.size with hlt | hge
  · exact hlt
  · unfold Blk at h; rw [Array.getElem?_eq_none hge] at h; cases h
theorem Blk.rd {w : World} {b : Nat} {cs : List Value} {T : TypeId} (h : Blk w b cs T) : Rd w (some ⟨b, 0, none⟩) cs := fun j u hu => ⟨b, 0, rfl, h.lt, by rw [Nat.zero_add]; exact h.cell hu⟩

/-- memory of several blocks, seen as one thing -/
structure Ab where
  ok : Nat → World → Prop
  has : Nat → Prop
  lt : ∀ B w, ok B w → ∀ k, has k → B ≤ k ∧ k < w.heap.size
  keep : ∀ B w w' row, ok B w → w.grownBy w' row → (∀ k, has k → row ≠ some k) → ok B w'
  mono : ∀ B B' w, ok B w → B' ≤ B → ok B' w
/-- an object of the call's own: a block known whole; a slice; a block that is only read; several -/
inductive Ob where
  | blk (b : Nat) (cs : List Value) (T : TypeId)
  | row (A : Option Addr) (n cap : Nat) (xs : List Value) (e : TypeId) (size : Nat)
  | ro (b : Nat) (xs : List Value)
  | abs (A : Ab)
def Ob.block : Ob → Option Nat
  | .blk b _ _ => some b
  | .row A _ cap _ _ _ => if cap = 0 then none else A.map (·.block)
  | .ro b _ => some b
  | .abs _ => none
def Ob.has : Ob → Nat → Prop
  | .blk b cs T, k => Ob.block (.blk b cs T) = some k
  | .row A n cap xs e size, k => Ob.block (.row A n cap xs e size) = some k
  | .ro b xs, k => Ob.block (.ro b xs) = some k
  | .abs A, k => A.has k
theorem Ob.has_block {o : Ob} {k : Nat} (h : o.block = some k) : o.has k := by
  cases o with
  | abs A => cases h
  | _ => exact h
/-- a slice of the call's own: its first n elements are known, its capacity lies in one block -/
def Own (B : Nat) (w : World) (A : Option Addr) (n cap : Nat) (xs : List Value) (e : TypeId) (size : Nat) : Prop :=
  xs.length = n * size ∧ n ≤ cap ∧ cap ≤ maxLen ∧ (cap = 0 ∨ ∃ g cur, A = some ⟨g, 0, none⟩ ∧ B ≤ g ∧ w.heap[g]? = some (.cells cur e (0, 0)) ∧ cap * size ≤ cur.size ∧ cur.toList.take (n * size) = xs)
/-- a block that is only read from now on -/
def Ro (B : Nat) (w : World) (b : Nat) (xs : List Value) : Prop := B ≤ b ∧ ∃ cur T fr, w.heap[b]? = some (.cells cur T fr) ∧ cur.toList.take xs.length = xs
def Ob.ok (B : Nat) (w : World) : Ob → Prop
  | .blk b cs T => B ≤ b ∧ Blk w b cs T
  | .row A n cap xs e size => Own B w A n cap xs e size
  | .ro b xs => Ro B w b xs
  | .abs A => A.ok B w
def Ob.apart (x y : Ob) : Prop := ∀ k, x.has k → ¬ y.has k
theorem own_block {A : Option Addr} {n cap : Nat} : (Value.slice A n cap).ownBlock = A.map (·.block) := by cases A <;> rfl
theorem heap_lt {w : World} {g : Nat} {o : Obj} (h : w.heap[g]? = some o) : g < w.heap.size := by
  rcases Nat.lt_or_ge g w.heap.size with hlt | hge
  · exact hlt
  · rw [Array.getElem?_eq_none hge] at h; cases h
theorem own_of {B : Nat} {w : World} {A : Option Addr} {n cap : Nat} {xs : List Value} {e : TypeId} {size : Nat} (h : w.ownsRow B e size (.slice A n cap) n xs) : Own B w A n cap xs e size := by
  obtain ⟨h1, ⟨hv, hn⟩ | ⟨g, cap', cur, hv, hg, hh, hc, hm, hs, ht⟩⟩ := h
  · cases hv; exact ⟨h1, Nat.le_refl _, Nat.zero_le _, .inl rfl⟩
  · cases hv; exact ⟨h1, hc, hm, .inr ⟨g, cur, rfl, hg, hh, by omega, ht⟩⟩
theorem Ob.lt {B : Nat} {w : World} {o : Ob} (h : o.ok B w) : ∀ k, o.has k → B ≤ k ∧ k < w.heap.size := by
  cases o with
  | abs A => exact A.lt B w h
  | blk b cs T => intro k hk; cases hk; exact ⟨h.1, h.2.lt⟩
  | row A n cap xs e size =>
    intro k hk
    obtain ⟨_, _, _, h0 | ⟨g, cur, hA, hg, hh, _⟩⟩ := h
    · simp only [Ob.has, Ob.block, h0, if_true] at hk; cases hk
    · simp only [Ob.has, Ob.block] at hk
      split at hk
      · cases hk
      · subst hA; cases hk; exact ⟨hg, heap_lt hh⟩
  | ro b xs => intro k hk; cases hk; obtain ⟨h1, _, _, _, h2, _⟩ := h; exact ⟨h1, heap_lt h2⟩
/-- what is not the written block's stays -/
theorem Ob.keep {B : Nat} {w w' : World} {o : Ob} {row : Option Nat} (h : o.ok B w) (hg : w.grownBy w' row) (hne : ∀ k, o.has k → row ≠ some k) : o.ok B w' := by
  cases o with
  | abs A => exact A.keep B w w' row h hg hne
  | blk b cs T => exact ⟨h.1, (hg.block b h.2.lt (fun e => hne b rfl e.symm)).trans h.2⟩
  | row A n cap xs e size =>
    obtain ⟨h1, h2, h3, h0 | ⟨g, cur, hA, hB, hh, r⟩⟩ := h
    · exact ⟨h1, h2, h3, .inl h0⟩
    · by_cases hc : cap = 0
      · exact ⟨h1, h2, h3, .inl hc⟩
      · refine ⟨h1, h2, h3, .inr ⟨g, cur, hA, hB, (hg.block g (heap_lt hh) (fun e => hne g ?_ e.symm)).trans hh, r⟩⟩
        simp only [Ob.has, Ob.block, if_neg hc, hA, Option.map_some]
  | ro b xs =>
    obtain ⟨h1, cur, T, fr, h2, h3⟩ := h
    exact ⟨h1, cur, T, fr, (hg.block b (heap_lt h2) (fun e => hne b rfl e.symm)).trans h2, h3⟩
theorem Ob.mono {B B' : Nat} {w : World} {o : Ob} (h : o.ok B w) (hb : B' ≤ B) : o.ok B' w := by
  cases o with
  | abs A => exact A.mono B B' w h hb
  | blk b cs T => exact ⟨Nat.le_trans hb h.1, h.2⟩
  | row A n cap xs e size =>
    obtain ⟨h1, h2, h3, h0 | ⟨g, cur, hA, hB, r⟩⟩ := h
    · exact ⟨h1, h2, h3, .inl h0⟩
    · exact ⟨h1, h2, h3, .inr ⟨g, cur, hA, Nat.le_trans hb hB, r⟩⟩
  | ro b xs => exact ⟨Nat.le_trans hb h.1, h.2⟩

structure HS (w0 w : World) (l : List Ob) : Prop where
  base : Below w0.heap.size w0 w
  own : ∀ o ∈ l, o.ok w0.heap.size w
  apart : l.Pairwise Ob.apart
theorem apart_symm {x y : Ob} (h : x.apart y) : y.apart x := fun k hk hx => h k hx hk
section
variable {w0 w w' : World} {l : List Ob}
theorem HS.start (w : World) : HS w w [] := ⟨Below.refl _ _, (fun o h => by cases h), List.Pairwise.nil⟩
theorem HS.at_ {i : Nat} {o : Ob} (h : HS w0 w l) (hi : l[i]? = some o) : o.ok w0.heap.size w := h.own o (List.mem_of_getElem? hi)
theorem HS.cell {i b : Nat} {cs : List Value} {T : TypeId} {j : Nat} {v : Value} (h : HS w0 w l) (hi : l[i]? = some (.blk b cs T)) (hj : cs[j]? = some v) : w.cell? ⟨b, j, none⟩ = some v := (h.at_ hi).2.cell hj
theorem Own.rd {B : Nat} {A : Option Addr} {n cap : Nat} {xs : List Value} {e : TypeId} {size : Nat} (h : Own B w A n cap xs e size) : Rd w A xs := by
  obtain ⟨h1, h2, h3, h0 | ⟨g, cur, hA, hB, hh, hs, ht⟩⟩ := h
  · intro j u hu
    have : xs = [] := List.length_eq_zero_iff.1 (by rw [h1]; have : n = 0 := by omega
                                                    rw [this]; simp)
    subst this; simp at hu
  · intro j u hu
    refine ⟨g, 0, hA, heap_lt hh, ?_⟩
    rw [Nat.zero_add, cell_of_row w g j _ e _ hh]
    rw [← ht, List.getElem?_take] at hu
    split at hu
    · simpa using hu
    · cases hu
theorem HS.rd {i : Nat} {A : Option Addr} {n cap : Nat} {xs : List Value} {e : TypeId} {size : Nat} (h : HS w0 w l) (hi : l[i]? = some (.row A n cap xs e size)) : Rd w A xs := Own.rd (h.at_ hi)
theorem Ro.rd {B b : Nat} {xs : List Value} (h : Ro B w b xs) : Rd w (some ⟨b, 0, none⟩) xs := by
  obtain ⟨_, cur, T, fr, hh, ht⟩ := h
  intro j u hu
  refine ⟨b, 0, rfl, heap_lt hh, ?_⟩
  rw [Nat.zero_add, cell_of_row w b j _ T _ hh]
  rw [← ht, List.getElem?_take] at hu
  split at hu
  · simpa using hu
  · cases hu
theorem HS.rdo {i b : Nat} {xs : List Value} (h : HS w0 w l) (hi : l[i]? = some (.ro b xs)) : Rd w (some ⟨b, 0, none⟩) xs := Ro.rd (h.at_ hi)
theorem HS.len {i : Nat} {A : Option Addr} {n cap : Nat} {xs : List Value} {e : TypeId} {size : Nat} (h : HS w0 w l) (hi : l[i]? = some (.row A n cap xs e size)) : xs.length = n * size ∧ n ≤ cap ∧ cap ≤ maxLen := by
  have h1 : Own _ _ _ _ _ _ _ _ := h.at_ hi
  exact ⟨h1.1, h1.2.1, h1.2.2.1⟩
theorem HS.ext (h : HS w0 w l) (he : Below w.heap.size w w') : HS w0 w' l := by
  refine ⟨h.base.trans (he.mono h.base.size), fun o ho => ?_, h.apart⟩
  exact Ob.keep (row := none) (h.own o ho) (grown_below he none) (fun k _ e => by cases e)
theorem HS.tail {o : Ob} (h : HS w0 w (o :: l)) : HS w0 w l := ⟨h.base, fun o' ho => h.own o' (List.mem_cons_of_mem _ ho), (List.pairwise_cons.1 h.apart).2⟩
theorem HS.cons {o : Ob} (h : HS w0 w l) (ho : o.ok w0.heap.size w) (ha : ∀ o' ∈ l, o.apart o') : HS w0 w (o :: l) :=
  ⟨h.base, fun o' ho' => by rcases List.mem_cons.1 ho' with rfl | h1; exact ho; exact h.own _ h1, List.pairwise_cons.2 ⟨ha, h.apart⟩⟩
/-- a new block -/
theorem HS.new {b : Nat} {cs : List Value} {T : TypeId} (h : HS w0 w l) (hb : w.heap.size = b) : HS w0 (w.alloc (.cells cs.toArray T)) (.blk b cs T :: l) := by
  subst hb
  refine (h.ext ((Below.refl _ _).alloc (Nat.le_refl _) _)).cons ⟨h.base.size, heap_alloc_new w _⟩ fun o' ho' k hk hk' => ?_
  cases hk
  exact absurd (Ob.lt (h.own o' ho') _ hk').2 (Nat.lt_irrefl _)
/-- only some of the objects, in another order -/
theorem HS.pick (h : HS w0 w l) (is : List Nat) {m : List Ob} (hm : is.map (l[·]?) = m.map some) (hd : is.Nodup) : HS w0 w m := by
  refine ⟨h.base, fun o ho => ?_, ?_⟩
  · have : some o ∈ is.map (l[·]?) := by rw [hm]; exact List.mem_map_of_mem ho
    obtain ⟨i, _, hi⟩ := List.mem_map.1 this
    exact h.at_ hi
  · have hp : ∀ (i j : Nat) (o o' : Ob), l[i]? = some o → l[j]? = some o' → i ≠ j → o.apart o' := by
      intro i j o o' hi hj hij
      obtain ⟨hi', rfl⟩ := List.getElem?_eq_some_iff.1 hi
      obtain ⟨hj', rfl⟩ := List.getElem?_eq_some_iff.1 hj
      rcases Nat.lt_or_gt_of_ne hij with h1 | h1
      · exact List.pairwise_iff_getElem.1 h.apart i j hi' hj' h1
      · exact apart_symm (List.pairwise_iff_getElem.1 h.apart j i hj' hi' h1)
    have h2 : (is.map (l[·]?)).Pairwise (fun x y => ∀ o o' : Ob, x = some o → y = some o' → o.apart o') := by
      rw [List.pairwise_map]
      exact List.Pairwise.imp (fun {i j} hij o o' hi hj => hp i j o o' hi hj hij) hd
    rw [hm, List.pairwise_map] at h2
    exact List.Pairwise.imp (fun {x y} hxy => hxy x y rfl rfl) h2
/-- .. ahead of a part that isn't touched -/
theorem HS.pickT {p m l : List Ob} (h : HS w0 w (p ++ l)) (is : List Nat) (hm : is.map (p[·]?) = m.map some) (hd : is.Nodup) : HS w0 w (m ++ l) := by
  have h1 : HS w0 w p := ⟨h.base, fun o ho => h.own o (List.mem_append.2 (.inl ho)), (List.pairwise_append.1 h.apart).1⟩
  have h2 := h1.pick is hm hd
  refine ⟨h.base, fun o ho => (List.mem_append.1 ho).elim (h2.own o) (fun h3 => h.own o (List.mem_append.2 (.inr h3))), List.pairwise_append.2 ⟨h2.apart, (List.pairwise_append.1 h.apart).2.1, fun x hx y hy => ?_⟩⟩
  have : some x ∈ is.map (p[·]?) := by rw [hm]; exact List.mem_map_of_mem hx
  obtain ⟨i, _, hi⟩ := List.mem_map.1 this
  exact (List.pairwise_append.1 h.apart).2.2 x (List.mem_of_getElem? hi) y hy
/-- a call that leaves what there was, and hands back new objects -/
theorem HS.call {m : List Ob} (h : HS w0 w l) (k : HS w w' m) : HS w0 w' (m ++ l) := by
  have h1 := h.ext k.base
  refine ⟨h1.base, fun o ho => ?_, List.pairwise_append.2 ⟨k.apart, h.apart, fun x hx y hy b hb hb' => ?_⟩⟩
  · rcases List.mem_append.1 ho with h2 | h2
    · exact Ob.mono (k.own o h2) h.base.size
    · exact h1.own o h2
  · have e1 := (Ob.lt (k.own x hx) b hb).1
    have e2 := (Ob.lt (h.own y hy) b hb').2
    omega
/-- one object is written -/
theorem HS.wrote {i : Nat} {o o' : Ob} (h : HS w0 w l) (hi : l[i]? = some o) (hg : w.grownBy w' o.block) (ho : o'.ok w0.heap.size w') (hb : ∀ k, o'.has k → o.has k ∨ w.heap.size ≤ k) : HS w0 w' (l.set i o') := by
  have hbase : Below w0.heap.size w0 w' := h.base.grown hg h.base.size fun k hk => (Ob.lt (h.at_ hi) k (Ob.has_block hk)).1
  have hil := (List.getElem?_eq_some_iff.1 hi).1
  have hap : ∀ j x, l[j]? = some x → j ≠ i → o.apart x := by
    intro j x hj hne
    obtain ⟨hi', rfl⟩ := List.getElem?_eq_some_iff.1 hi
    obtain ⟨hj', rfl⟩ := List.getElem?_eq_some_iff.1 hj
    rcases Nat.lt_or_gt_of_ne hne with h1 | h1
    · exact apart_symm (List.pairwise_iff_getElem.1 h.apart j i hj' hi' h1)
    · exact List.pairwise_iff_getElem.1 h.apart i j hi' hj' h1
  have hap' : ∀ j x, l[j]? = some x → j ≠ i → o'.apart x := by
    intro j x hj hne k hk hx
    rcases hb k hk with e | hk'
    · exact hap j x hj hne k e hx
    · have := (Ob.lt (h.at_ hj) _ hx).2
      omega
  refine ⟨hbase, fun x hx => ?_, ?_⟩
  · obtain ⟨j, hj⟩ := List.mem_iff_getElem?.1 hx
    by_cases hji : i = j
    · subst hji
      rw [List.getElem?_set_self hil] at hj
      cases hj; exact ho
    · rw [List.getElem?_set_ne hji] at hj
      exact Ob.keep (h.at_ hj) hg (fun k hk e => hap j x hj (Ne.symm hji) k (Ob.has_block e) hk)
  · rw [List.pairwise_iff_getElem]
    intro a b ha hb' hab
    have ha' : a < l.length := by simpa using ha
    have hb2 : b < l.length := by simpa using hb'
    rw [List.getElem_set, List.getElem_set]
    split
    · rename_i e
      subst e
      rw [if_neg (by omega)]
      exact hap' b _ (List.getElem?_eq_getElem hb2) (by omega)
    · split
      · rename_i e
        subst e
        exact apart_symm (hap' a _ (List.getElem?_eq_getElem ha') (by omega))
      · exact List.pairwise_iff_getElem.1 h.apart a b ha' hb2 hab
theorem HS.upd {i : Nat} {o o' : Ob} (h : HS w0 w l) (hi : l[i]? = some o) (hg : w.grownBy w' o.block) (ho : o'.ok w0.heap.size w') (hb : ∀ k, o'.has k → o.has k ∨ w.heap.size ≤ k) {m : List Ob} (hm : l.set i o' = m) : HS w0 w' m := hm ▸ h.wrote hi hg ho hb
/-- nil, and a literal, as slices -/
theorem HS.nilrow (h : HS w0 w l) (e : TypeId) (size : Nat) : HS w0 w (.row none 0 0 [] e size :: l) :=
  h.cons (show Own _ _ _ _ _ _ _ _ from ⟨by simp, Nat.le_refl _, Nat.zero_le _, .inl rfl⟩) fun _ _ k hk => by simp [Ob.has, Ob.block] at hk
theorem HS.asrow {b : Nat} {cs : List Value} {e : TypeId} (h : HS w0 w (.blk b cs e :: l)) {m size : Nat} (hl : cs.length = m * size) (hm : m ≤ maxLen) : HS w0 w (.row (some ⟨b, 0, none⟩) m m cs e size :: l) := by
  have h1 := h.own _ List.mem_cons_self
  refine h.tail.cons (show Own _ _ _ _ _ _ _ _ from ⟨hl, Nat.le_refl _, hm, .inr ⟨b, cs.toArray, rfl, h1.1, h1.2, by simp [hl], by rw [← hl]; simp⟩⟩) fun o' ho' k hk => ?_
  simp only [Ob.has, Ob.block] at hk
  split at hk
  · cases hk
  · exact (List.pairwise_cons.1 h.apart).1 o' ho' k hk
/-- a slice cut shorter, its capacity too -/
theorem HS.clip {i : Nat} {A : Option Addr} {n cap n' cap' : Nat} {xs : List Value} {e : TypeId} {size : Nat} {m : List Ob} (h : HS w0 w l) (hi : l[i]? = some (.row A n cap xs e size)) (h1 : n' ≤ cap') (h2 : cap' ≤ cap) (h3 : n' ≤ n) (hm : l.set i (.row A n' cap' (xs.take (n' * size)) e size) = m) : HS w0 w m := by
  have hO : Own _ _ _ _ _ _ _ _ := h.at_ hi
  obtain ⟨a1, a2, a3, a4⟩ := hO
  have hle : n' * size ≤ n * size := Nat.mul_le_mul_right _ h3
  refine h.upd (o' := .row A n' cap' (xs.take (n' * size)) e size) hi (World.grownBy.mk rfl rfl rfl (Nat.le_refl _) fun _ _ _ => rfl) ?_ ?_ hm
  · refine ⟨by rw [List.length_take]; omega, h1, by omega, ?_⟩
    rcases a4 with h0 | ⟨g, cur, hA, hB, hh, hs, ht⟩
    · exact .inl (by omega)
    · refine .inr ⟨g, cur, hA, hB, hh, Nat.le_trans (Nat.mul_le_mul_right _ h2) hs, ?_⟩
      rw [← ht, List.take_take, Nat.min_eq_left hle]
  · intro k hk
    simp only [Ob.has, Ob.block] at hk ⊢
    split at hk
    · cases hk
    · rw [if_neg (by omega)]; exact .inl hk
end
end Go.Proofs.Ytkphmcaoioaglaa
