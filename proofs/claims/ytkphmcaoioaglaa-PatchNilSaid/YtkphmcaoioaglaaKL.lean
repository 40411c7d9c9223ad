/- Own objects in lists of a length that is not known beforehand. -/
import Derived.Test.YtkphmcaoioaglaaKT
import Derived.Laws.MakeOwn
set_option linter.unusedVariables false
set_option linter.unusedSimpArgs false
namespace Go.Proofs.Ytkphmcaoioaglaa
open Go Go.RowKit

theorem HS.perm {w0 w : World} {l m : List Ob} (h : HS w0 w l) (p : l.Perm m) : HS w0 w m :=
  ⟨h.base, fun o ho => h.own o (p.mem_iff.2 ho), (p.pairwise_iff (fun k => apart_symm k)).1 h.apart⟩
/-- make([]T, 0, c) -/
theorem op_mk0 {P : Program} {n : Nat} {L : Fr} {o : Oper} {w : World} {t e : TypeId} {x y : Operand} {k k' : IntKind} {m size bytes : Nat} {q q' : Int} {zs : List Value} {w0 : World} {l : List Ob} (H : HS w0 w l) (ho : o.op = .makeSlice t x y) (hx : ev L x = some (.int k q)) (hy : ev L y = some (.int k' q')) (hq : q = 0) (hq' : q' = (m : Int))
    (ht : P.underlying t = some (.slice e)) (hz : (P.info? e).map (fun i => (i.zero.map (·.cells.toList), i.size, i.bytes)) = some (some zs, size, bytes)) (hb : bytes * m ≤ 281474976710656) (hm : m ≤ maxLen) :
    OpS P n L o w (fun u w' => ∃ b, u = .slice (some ⟨b, 0, none⟩) 0 m ∧ HS w0 w' (.row (some ⟨b, 0, none⟩) 0 m [] e size :: l)) := op_run fun a ha => by
  subst hq; subst hq'
  cases hi : P.info? e with
  | none => rw [hi] at hz; cases hz
  | some inf =>
    rw [hi] at hz
    simp only [Option.map_some, Option.some.injEq, Prod.mk.injEq] at hz
    obtain ⟨h1, h2, h3⟩ := hz
    cases hzz : inf.zero with
    | none => rw [hzz] at h1; cases h1
    | some z =>
      obtain ⟨w', hr, hown, hg⟩ := run_make_own (P := P) w w0.heap.size t e inf z size ht hi hzz h2 k k' m (by rw [h3]; exact hb) hm H.base.size
      refine ⟨_, w', ?_, w.heap.size, rfl, ?_⟩
      · unfold execOp
        simp only [ho, ha.ev hx, ha.ev hy, Sem.run_bind, hr, Result.andThen_ok, Sem.run_pure]
      · have h4 : HS w0 w' l := H.ext ⟨hg.os, hg.tape, hg.output, hg.size, fun k hk => hg.block k hk (by intro h; cases h)⟩
        refine h4.cons (own_of hown) fun o' ho' k hk hk' => ?_
        have : k = w.heap.size := by
          simp only [Ob.has, Ob.block] at hk
          split at hk
          · cases hk
          · cases hk; rfl
        subst this
        exact absurd (Ob.lt (H.own o' ho') _ hk').2 (Nat.lt_irrefl _)
section
variable {α : Type} {f : α → List Ob} {w0 w : World}
def obs (f : α → List Ob) (xs : List α) : List Ob := xs.flatMap f
theorem obs_take {xs : List α} {i : Nat} {x : α} (hi : xs[i]? = some x) : (obs f xs).Perm (f x ++ obs f (xs.eraseIdx i)) := by
  obtain ⟨hl, rfl⟩ := List.getElem?_eq_some_iff.1 hi
  unfold obs
  have h1 : xs.Perm (xs[i] :: xs.eraseIdx i) := by
    have h2 : xs.eraseIdx i = xs.take i ++ xs.drop (i + 1) := List.eraseIdx_eq_take_drop_succ ..
    rw [h2]
    have h3 : xs = xs.take i ++ xs[i] :: xs.drop (i + 1) := by
      rw [List.getElem_cons_drop, List.take_append_drop]
    exact (List.Perm.of_eq h3).trans List.perm_middle
  have := h1.flatMap_right f
  simpa using this
theorem obs_put {xs : List α} {i : Nat} {x : α} (hi : i < xs.length) : (f x ++ obs f (xs.eraseIdx i)).Perm (obs f (xs.set i x)) := by
  have h1 : (xs.set i x)[i]? = some x := by simp [hi]
  have h2 := obs_take (f := f) h1
  have h3 : (xs.set i x).eraseIdx i = xs.eraseIdx i := by
    rw [List.eraseIdx_eq_take_drop_succ, List.eraseIdx_eq_take_drop_succ, List.drop_set_of_lt (by omega), List.take_set, List.set_eq_of_length_le (by rw [List.length_take]; omega)]
  rw [h3] at h2
  exact h2.symm
/-- the i-th one comes to the front -/
theorem HS.takeI {l : List Ob} {xs : List α} {i : Nat} {x : α} (h : HS w0 w (obs f xs ++ l)) (hi : xs[i]? = some x) : HS w0 w (f x ++ (obs f (xs.eraseIdx i) ++ l)) := by
  refine h.perm ?_
  rw [← List.append_assoc]
  exact (obs_take hi).append_right l
/-- .. and goes back, changed -/
theorem HS.putI {l : List Ob} {xs : List α} {i : Nat} {x : α} (h : HS w0 w (f x ++ (obs f (xs.eraseIdx i) ++ l))) (hi : i < xs.length) : HS w0 w (obs f (xs.set i x) ++ l) := by
  refine h.perm ?_
  rw [← List.append_assoc]
  exact (obs_put hi).append_right l
theorem HS.snocI {l : List Ob} {xs : List α} {x : α} (h : HS w0 w (f x ++ (obs f xs ++ l))) : HS w0 w (obs f (xs ++ [x]) ++ l) := by
  refine h.perm ?_
  rw [← List.append_assoc]
  refine List.Perm.append_right l ?_
  unfold obs
  rw [List.flatMap_append]
  simp only [List.flatMap_cons, List.flatMap_nil, List.append_nil]
  exact List.perm_append_comm
/-- an object of the list, to be read -/
theorem HS.memI {l : List Ob} {xs : List α} {x : α} (h : HS w0 w (obs f xs ++ l)) (hx : x ∈ xs) : HS w0 w (f x) := by
  obtain ⟨i, hi, rfl⟩ := List.mem_iff_getElem.1 hx
  have h1 := h.takeI (List.getElem?_eq_getElem hi)
  exact ⟨h1.base, fun o ho => h1.own o (List.mem_append_left _ ho), (List.pairwise_append.1 h1.apart).1⟩
theorem HS.left {l m : List Ob} (h : HS w0 w (l ++ m)) : HS w0 w l := ⟨h.base, fun o ho => h.own o (List.mem_append_left _ ho), (List.pairwise_append.1 h.apart).1⟩
theorem HS.right {l m : List Ob} (h : HS w0 w (l ++ m)) : HS w0 w m := ⟨h.base, fun o ho => h.own o (List.mem_append_right _ ho), (List.pairwise_append.1 h.apart).2.1⟩
theorem HS.swap {l m : List Ob} (h : HS w0 w (l ++ m)) : HS w0 w (m ++ l) := h.perm List.perm_append_comm
/-- several objects seen as one -/
def Ab.of (l : List Ob) : Ab where
  ok B w := (∀ o ∈ l, o.ok B w) ∧ l.Pairwise Ob.apart
  has k := ∃ o ∈ l, o.has k
  lt B w h k hk := by
    obtain ⟨o, ho, hk⟩ := hk
    exact Ob.lt (h.1 o ho) k hk
  keep B w w' row h hg hne := ⟨fun o ho => Ob.keep (h.1 o ho) hg (fun k hk => hne k ⟨o, ho, hk⟩), h.2⟩
  mono B B' w h hb := ⟨fun o ho => Ob.mono (h.1 o ho) hb, h.2⟩
theorem HS.pack {l m : List Ob} (h : HS w0 w (l ++ m)) : HS w0 w (.abs (Ab.of l) :: m) := by
  obtain ⟨p1, p2, p3⟩ := List.pairwise_append.1 h.apart
  refine h.right.cons ⟨fun o ho => h.own o (List.mem_append_left _ ho), p1⟩ fun o' ho' k hk hk' => ?_
  obtain ⟨o, ho, hk⟩ := hk
  exact p3 o ho o' ho' k hk hk'
theorem HS.unpack {l m : List Ob} (h : HS w0 w (.abs (Ab.of l) :: m)) : HS w0 w (l ++ m) := by
  have h1 : (∀ o ∈ l, o.ok w0.heap.size w) ∧ l.Pairwise Ob.apart := h.own _ List.mem_cons_self
  obtain ⟨a1, a2⟩ := List.pairwise_cons.1 h.apart
  refine ⟨h.base, fun o ho => ?_, List.pairwise_append.2 ⟨h1.2, a2, fun x hx y hy k hk hk' => a1 y hy k ⟨x, hx, hk⟩ hk'⟩⟩
  rcases List.mem_append.1 ho with h2 | h2
  · exact h1.1 o h2
  · exact h.own o (List.mem_cons_of_mem _ h2)
/-- a list of things, each of several objects, as one -/
def obA (f : α → List Ob) (xs : List α) : Ob := .abs (Ab.of (obs f xs))
theorem HS.nilA {l : List Ob} (h : HS w0 w l) : HS w0 w (obA f [] :: l) := HS.pack (l := obs f []) h
theorem HS.snocA {l : List Ob} {xs : List α} {x : α} (h : HS w0 w (f x ++ (obA f xs :: l))) : HS w0 w (obA f (xs ++ [x]) :: l) := by
  refine HS.pack (HS.snocI ?_)
  have h1 : HS w0 w (obA f xs :: (f x ++ l)) := h.perm List.perm_middle
  refine h1.unpack.perm ?_
  rw [← List.append_assoc, ← List.append_assoc]
  exact List.perm_append_comm.append_right l
theorem HS.takeA {l : List Ob} {xs : List α} {i : Nat} {x : α} (h : HS w0 w (obA f xs :: l)) (hi : xs[i]? = some x) : HS w0 w (f x ++ (obA f (xs.eraseIdx i) :: l)) := by
  have h1 := h.unpack.takeI hi
  have h2 : HS w0 w (obs f (xs.eraseIdx i) ++ (f x ++ l)) := h1.perm (by
    rw [← List.append_assoc, ← List.append_assoc]
    exact List.perm_append_comm.append_right l)
  exact h2.pack.perm List.perm_middle.symm
theorem HS.putA {l : List Ob} {xs : List α} {i : Nat} {x : α} (h : HS w0 w (f x ++ (obA f (xs.eraseIdx i) :: l))) (hi : i < xs.length) : HS w0 w (obA f (xs.set i x) :: l) := by
  have h1 : HS w0 w (obA f (xs.eraseIdx i) :: (f x ++ l)) := h.perm List.perm_middle
  refine HS.pack (HS.putI ?_ hi)
  refine h1.unpack.perm ?_
  rw [← List.append_assoc, ← List.append_assoc]
  exact List.perm_append_comm.append_right l
/-- one of it, to be read -/
theorem HS.memA {l : List Ob} {xs : List α} {x : α} (h : HS w0 w (obA f xs :: l)) (hx : x ∈ xs) : HS w0 w (f x) := h.unpack.memI hx
end
end Go.Proofs.Ytkphmcaoioaglaa
