/- Words for memory: a slice value that reads as a list of numbers (nil let in); a slice of the call's own; both over worlds that grow. -/
import Derived.Test.YtkphmcaoioaglaaPush
import Derived.Test.YtkphmcaoioaglaaBase
import Derived.Test.YtkphmcaoioaglaaNth
import Derived.Test.YtkphmcaoioaglaaTwo
import Derived.Lib.Hide
import Derived.Laws.OwnMore
import Derived.Laws.MakeOwn
import Derived.Maps.AppendAt
import Derived.Deep.OwnRows
import Derived.ChangeSlices
import Derived.WideShapes
import Derived.DataShut
set_option linter.unusedVariables false
set_option linter.unusedSimpArgs false
namespace Go.Proofs.Ytkphmcaoioaglaa
open Go Go.RowKit

/-- the slice (A, n, any capacity) reads as these numbers -/
def Ints (k : IntKind) (w : World) (A : Option Addr) (n : Nat) (zs : List Int) : Prop :=
  zs.length = n ∧ (0 < n → ∃ b off, A = some ⟨b, off, none⟩ ∧ b < w.heap.size ∧ ∀ j, j < n → w.cell? ⟨b, off + j, none⟩ = some (.int k (nth zs j)))
section
variable {k : IntKind} {w w' : World} {A : Option Addr} {n : Nat} {zs : List Int}
theorem Ints.len (h : Ints k w A n zs) : zs.length = n := h.1
theorem Ints.at_ {i : Nat} (h : Ints k w A n zs) (hi : i < n) : ∃ b off, A = some ⟨b, off, none⟩ ∧ b < w.heap.size ∧ w.cell? ⟨b, off + i, none⟩ = some (.int k (nth zs i)) := by
  obtain ⟨b, off, e, hb, hc⟩ := h.2 (by omega)
  exact ⟨b, off, e, hb, hc i hi⟩
theorem Ints.at' (h : Ints k w A n zs) (hn : 0 < n) : ∃ b off, A = some ⟨b, off, none⟩ ∧ b < w.heap.size ∧ Hid (∀ j, j < n → w.cell? ⟨b, off + j, none⟩ = some (.int k (nth zs j))) := h.2 hn
theorem Ints.cell {b off i : Nat} (h : Ints k w (some ⟨b, off, none⟩) n zs) (hi : i < n) : b < w.heap.size ∧ w.cell? ⟨b, off + i, none⟩ = some (.int k (nth zs i)) := by
  obtain ⟨b', off', e, hb, hc⟩ := h.at_ hi
  cases e
  exact ⟨hb, hc⟩
theorem Ints.keep (h : Ints k w A n zs) (hs : w.heap.size ≤ w'.heap.size) (hk : ∀ p : Addr, p.block < w.heap.size → w'.cell? p = w.cell? p) : Ints k w' A n zs :=
  ⟨h.1, fun hn => by
    obtain ⟨b, off, e, hb, hc⟩ := h.2 hn
    exact ⟨b, off, e, by omega, fun j hj => (hk _ hb).trans (hc j hj)⟩⟩
theorem Ints.below {B : Nat} (h : Ints k w A n zs) (hB : w.heap.size ≤ B) (hb : Below B w w') : Ints k w' A n zs := h.keep hb.size fun _ hp => hb.cell (by omega)
theorem Ints.nil_ (w : World) (A : Option Addr) : Ints k w A 0 [] := ⟨rfl, fun h => by omega⟩
end

theorem add_addr (g j : Nat) : (⟨g, 0, none⟩ : Addr).add j = ⟨g, j, none⟩ := by unfold Addr.add; split <;> simp_all
theorem own_open {w : World} {B : Nat} {e : TypeId} {size : Nat} {v : Value} {n : Nat} {xs : List Value} (h : w.ownsRow B e size v n xs) (hn : 0 < n) :
    ∃ g cap, v = .slice (some ⟨g, 0, none⟩) n cap ∧ B ≤ g ∧ g < w.heap.size ∧ ∀ j u, xs[j]? = some u → w.cell? ⟨g, j, none⟩ = some u := by
  have hlt := h.lt
  have h0 := h
  obtain ⟨_, ⟨_, rfl⟩ | ⟨g, cap, cur, hv, hg, _⟩⟩ := h
  · omega
  · subst hv
    obtain ⟨h1, h2⟩ := hlt g rfl
    refine ⟨g, cap, rfl, hg, h2, fun j u hu => ?_⟩
    have := h0.cells (g := g) rfl j u hu
    rwa [add_addr] at this
theorem own_form {w : World} {B : Nat} {e : TypeId} {size : Nat} {v : Value} {n : Nat} {xs : List Value} (h : w.ownsRow B e size v n xs) : ∃ A cap, v = .slice A n cap ∧ n ≤ cap ∧ cap ≤ maxLen := by
  obtain ⟨_, ⟨rfl, rfl⟩ | ⟨g, cap, cur, rfl, _, _, hc, hm, _⟩⟩ := h
  · exact ⟨none, 0, rfl, Nat.le_refl _, Nat.zero_le _⟩
  · exact ⟨_, cap, rfl, hc, hm⟩
theorem own_keep {w w' : World} {B b : Nat} {e : TypeId} {size : Nat} {v : Value} {n : Nat} {xs : List Value} (h : w.ownsRow B e size v n xs) (hb : Below b w w') (hB : w.heap.size ≤ b) : w'.ownsRow B e size v n xs := by
  obtain ⟨h1, h2 | ⟨g, cap, cur, hv, hg, hh, r⟩⟩ := h
  · exact ⟨h1, .inl h2⟩
  · have hlt : g < w.heap.size := by
      rcases Nat.lt_or_ge g w.heap.size with hlt | hge
      · exact hlt
      · rw [Array.getElem?_eq_none hge] at hh; cases hh
    exact ⟨h1, .inr ⟨g, cap, cur, hv, hg, (hb.block g (by omega)).trans hh, r⟩⟩
theorem own_setCell {w : World} {B : Nat} {e : TypeId} {size : Nat} {v : Value} {n : Nat} {xs : List Value} (h : w.ownsRow B e size v n xs) {p : Addr} (hp : p.block < B) (u : Value) : (w.setCell p u).ownsRow B e size v n xs := by
  obtain ⟨h1, h2 | ⟨g, cap, cur, hv, hg, hh, r⟩⟩ := h
  · exact ⟨h1, .inl h2⟩
  · exact ⟨h1, .inr ⟨g, cap, cur, hv, hg, (Below.heap_setCell w p u g (by omega)).trans hh, r⟩⟩
theorem own_mono {w : World} {B B' : Nat} {e : TypeId} {size : Nat} {v : Value} {n : Nat} {xs : List Value} (h : w.ownsRow B e size v n xs) (hB : B' ≤ B) : w.ownsRow B' e size v n xs := by
  obtain ⟨h1, h2 | ⟨g, cap, cur, hv, hg, r⟩⟩ := h
  · exact ⟨h1, .inl h2⟩
  · exact ⟨h1, .inr ⟨g, cap, cur, hv, Nat.le_trans hB hg, r⟩⟩
theorem own_ints {k : IntKind} {w : World} {B : Nat} {e : TypeId} {A : Option Addr} {n cap : Nat} {zs : List Int} (h : w.ownsRow B e 1 (.slice A n cap) n (zs.map (Value.int k))) : Ints k w A n zs := by
  have hl : zs.length = n := by have := h.1; simpa using this
  refine ⟨hl, fun hn => ?_⟩
  obtain ⟨g, cap', hv, _, hg, hc⟩ := own_open h hn
  injection hv with hA
  refine ⟨g, 0, hA, hg, fun j hj => ?_⟩
  rw [Nat.zero_add]
  exact hc j _ (by rw [List.getElem?_map, nth_get? (show j < zs.length by omega)]; rfl)

theorem cells_one {w : World} {b : Nat} {u0 : Value} (h : w.cell? ⟨b, 0, none⟩ = some u0) : ∀ j u, [u0][j]? = some u → w.cell? ⟨b, j, none⟩ = some u := by
  intro j u hu
  cases j with
  | zero => rw [h]; simpa using hu
  | succ j => simp at hu
/-- append of one element whose cells lie anywhere -/
theorem wpList_app1 {P : Program} {ops : Array Oper} {rest : List Oper} {o : Oper} {a : Act} {Q : Exit → Act → World → Prop} {w : World} (hgd : o.guard = none) (s x : Operand) (t e : TypeId)
    (ho : o.op = .call { callee := .builtin .append, args := #[s, x], argTypes := #[t, t] }) (ht : P.underlying t = some (.slice e)) (z : Value) (size bytes : Nat)
    (hin : (P.info? e).map (fun i => (i.zero, i.size, i.bytes)) = some (some z, size, bytes)) (hzs : z.cells.size = size) (hsz : 0 < size)
    (v : Value) (n : Nat) (xs : List Value) (hs : a.eval s = v) (B : Nat) (hown : w.ownsRow B e size v n xs) (hB : B ≤ w.heap.size)
    (cs : List Value) (b c : Nat) (hx : a.eval x = .slice (some ⟨b, 0, none⟩) 1 c) (hl : cs.length = size) (hcell : ∀ j u, cs[j]? = some u → w.cell? ⟨b, j, none⟩ = some u) (h1 : ∀ u ∈ cs, u.oneCell' = true)
    (h63 : n + 1 ≤ maxLen) (hbytes : (n + 1) * bytes ≤ 140737488355328)
    (h : ∀ v' w', w'.ownsRow B e size v' (n + 1) (xs ++ cs) → w.grownBy w' v.ownBlock → wpList P ops Q rest (a.put o.dst v') w') : wpList P ops Q (o :: rest) a w := by
  obtain ⟨i, hi, hz, hz1, hz2⟩ := info_parts hin
  exact wpList_append_own w hgd s x t ho B e i z size bytes ht hi hz hz1 hz2 hzs hsz v n xs hs hown ⟨b, 0, none⟩ 1 c cs hx (by simpa using hl)
    (fun j u hu => by rw [add_addr]; exact hcell j u hu) h1 h63 hbytes hB fun v' w' hown' hg _ => h v' w' hown' hg

/-! ### two rows of the call's own, of which one is appended to -/
def Apart (u v : Value) : Prop := ∀ k, u.ownBlock = some k → v.ownBlock ≠ some k
theorem Apart.symm {u v : Value} (h : Apart u v) : Apart v u := fun k hk hu => h k hu hk
def Pushed (w0 : World) (v v' : Value) (w' : World) : Prop := (∃ o, (w0.alloc o).grownBy w' v.ownBlock) ∧ (v'.ownBlock = v.ownBlock ∨ v'.ownBlock = some (w0.heap.size + 1))
theorem Pushed.other {w0 w' : World} {u v v' : Value} {B : Nat} {e : TypeId} {size n : Nat} {ys : List Value} (h : Pushed w0 v v' w') (hu : w0.ownsRow B e size u n ys) (ha : Apart u v) : w'.ownsRow B e size u n ys ∧ Apart u v' := by
  obtain ⟨⟨o, hg⟩, hat⟩ := h
  refine ⟨(hu.alloc o).kept hg ?_, fun k hk hv => ?_⟩
  · cases hub : u.ownBlock with
    | none => exact .inl rfl
    | some k => exact .inr (fun e => ha k hub e.symm)
  · rcases hat with e | e
    · exact ha k hk (e ▸ hv)
    · have hlt := (World.ownsRow.lt hu k hk).2
      rw [hv] at e
      have := Option.some.inj e
      omega
theorem wpList_push2 {P : Program} {ops : Array Oper} {rest : List Oper} {o : Oper} {a : Act} {Q : Exit → Act → World → Prop} {w0 : World} (hgd : o.guard = none) (s x : Operand) (t e : TypeId)
    (ho : o.op = .call { callee := .builtin .append, args := #[s, x], argTypes := #[t, t] }) (ht : P.underlying t = some (.slice e)) (z : Value) (size bytes : Nat)
    (hin : (P.info? e).map (fun i => (i.zero, i.size, i.bytes)) = some (some z, size, bytes)) (hzs : z.cells.size = size) (hsz : 0 < size)
    (v : Value) (n : Nat) (xs : List Value) (hs : a.eval s = v) (B : Nat) (hown : w0.ownsRow B e size v n xs) (E : World) (hE : Below B E w0) (hB : B ≤ w0.heap.size)
    (cs : Array Value) (c b : Nat) (hb : w0.heap.size = b) (hx : a.eval x = .slice (some ⟨b, 0, none⟩) 1 c) (hl : cs.size = size) (h1 : ∀ u ∈ cs.toList, u.oneCell' = true)
    (h63 : n + 1 ≤ maxLen) (hbytes : (n + 1) * bytes ≤ 140737488355328)
    (h : ∀ v' w', w'.ownsRow B e size v' (n + 1) (xs ++ cs.toList) → Below B E w' → B ≤ w'.heap.size → Pushed w0 v v' w' → wpList P ops Q rest (a.put o.dst v') w') :
    wpList P ops Q (o :: rest) a (w0.alloc (.cells cs e)) := by
  subst hb
  obtain ⟨i, hi, hz, hz1, hz2⟩ := info_parts hin
  have hBa : B ≤ (w0.alloc (.cells cs e)).heap.size := by simp; omega
  refine wpList_append_own_at (w0.alloc (.cells cs e)) hgd s x t ho B e i z size bytes ht hi hz hz1 hz2 hzs hsz v n xs hs (hown.alloc _) ⟨w0.heap.size, 0, none⟩ 1 c cs.toList hx (by simpa using hl)
    (World.news_of_block (heap_alloc_new w0 _)) h1 h63 hbytes hBa ?_
  intro v' w' hown' hg _ hat
  refine h v' w' hown' ((hE.alloc hB _).grown hg hBa fun k hk => ?_) (Nat.le_trans hBa hg.size) ⟨⟨_, hg⟩, ?_⟩
  · exact (hown.lt k hk).1
  · simpa using hat

/-! ### a slice of numbers that the call made, whole: block g, its head, n of n -/
def OwnI (k : IntKind) (e : TypeId) (w : World) (B g n : Nat) (zs : List Int) : Prop := w.ownsRow B e 1 (.slice (some ⟨g, 0, none⟩) n n) n (zs.map (Value.int k))
section
variable {k : IntKind} {e : TypeId} {w w' : World} {B g n : Nat} {zs : List Int}
theorem OwnI.len (h : OwnI k e w B g n zs) : zs.length = n := by have := h.1; simpa using this
theorem OwnI.lt (h : OwnI k e w B g n zs) : B ≤ g ∧ g < w.heap.size := World.ownsRow.lt h g rfl
theorem OwnI.cell (h : OwnI k e w B g n zs) {j : Nat} (hj : j < n) : w.cell? ⟨g, j, none⟩ = some (.int k (nth zs j)) := by
  rw [World.ownsRow.cellAt h j (by omega), List.getElem?_map, nth_get? (by rw [h.len]; exact hj)]; rfl
theorem OwnI.free (h : OwnI k e w B g n zs) (j : Nat) : w.frozen? ⟨g, j, none⟩ = false := World.ownsRow.frozenAt h j
theorem OwnI.set_ (h : OwnI k e w B g n zs) (j : Nat) (v : Int) : OwnI k e (w.setCell ⟨g, j, none⟩ (.int k v)) B g n (zs.set j v) := by
  have := (World.ownsRow.stored h j (.int k v)).1
  rw [← List.map_set] at this
  exact this
theorem OwnI.keep {b : Nat} (h : OwnI k e w B g n zs) (hb : Below b w w') (hB : w.heap.size ≤ b) : OwnI k e w' B g n zs := own_keep h hb hB
theorem OwnI.keep' {b : Nat} (h : OwnI k e w B g n zs) (hb : Below b w w') (hB : g < b) : OwnI k e w' B g n zs := by
  obtain ⟨h1, h2 | ⟨g', cap, cur, hv, hg, hh, r⟩⟩ := h
  · exact ⟨h1, .inl h2⟩
  · have : g' = g := by injection hv with hA _ _; injection hA with hA; injection hA with hA; exact hA.symm
    subst this
    exact ⟨h1, .inr ⟨g', cap, cur, hv, hg, (hb.block g' hB).trans hh, r⟩⟩
theorem OwnI.ints (h : OwnI k e w B g n zs) : Ints k w (some ⟨g, 0, none⟩) n zs := own_ints h
theorem made_one (z : Value) : ∀ n : Nat, (madeCells #[z] n).toList = List.replicate n z := fun n => by
  apply List.ext_getElem
  · simp [madeCells]
  · intro i h1 h2
    simp [madeCells, Nat.mod_one]
theorem ownI_make (k : IntKind) (e : TypeId) (w : World) (B n : Nat) (hB : B ≤ w.heap.size) (hm : n ≤ maxLen) : OwnI k e (w.alloc (.cells (madeCells #[.int k 0] n) e)) B w.heap.size n (List.replicate n 0) := by
  have := World.ownsRow_lit (e := e) (size := 1) w (madeCells #[.int k 0] n) n hB hm (by simp [madeCells])
  rw [made_one] at this
  unfold OwnI
  rw [List.map_replicate]
  exact this
theorem fill_set {a : List Int} {m : Nat} {v : Int} : (a ++ List.replicate (m + 1) 0).set a.length v = (a ++ [v]) ++ List.replicate m 0 := by
  rw [List.set_append_right _ _ (Nat.le_refl _), Nat.sub_self, List.replicate_succ, List.set_cons_zero, List.append_assoc]; rfl
theorem fill_at {a : List Int} {k n : Nat} {v : Int} (ha : a.length = k) (h : k < n) : (a ++ List.replicate (n - k) 0).set k v = (a ++ [v]) ++ List.replicate (n - (k + 1)) 0 := by
  subst ha
  have e : n - a.length = (n - (a.length + 1)) + 1 := by omega
  rw [e]
  exact fill_set
end

section
open Go.ChangeShapes Go.WideShapes
variable {H : Type} {enc : TypeId × Value → H} {P : Program} {w : World}
/-- an argument that is a slice of numbers -/
theorem ints_of_trod {k : IntKind} {t e : TypeId} {a : Option Addr} {len cap : Nat} {d : DataW H} {p : List MemPlace} (ht : P.underlying t = some (.slice e)) (he : P.underlying e = some (.int k)) (hc : P.cellsOf e = 1)
    (h : DataW.Trod enc P w 0 (fun _ => true) true t (.slice a len cap) d p) (hlt : ∀ x ∈ p, x.block < w.heap.size) :
    len ≤ cap ∧ cap ≤ maxLen ∧ ∃ zs, Ints k w a len zs ∧ ∀ z ∈ zs, (Lit.int k z).wf = true := by
  obtain ⟨fuel, hf⟩ := h
  rcases open_ints ht he hc hf with ⟨hcs, _⟩ | ⟨a', len', cap', zs, hcs, _, hl, hm, hz, hx, hcell, hwz⟩
  · simp [Value.cells] at hcs
    obtain ⟨rfl, rfl, rfl⟩ := hcs
    exact ⟨Nat.le_refl _, Nat.zero_le _, [], Ints.nil_ _ _, by simp⟩
  · simp [Value.cells] at hcs
    obtain ⟨rfl, rfl, rfl⟩ := hcs
    simp only [if_true] at hz
    have hp : p = MemPlace.row a' zs.length := (Prod.mk.inj hx).2
    refine ⟨hl, hm, zs.take len, ⟨by simp; omega, fun hn => ?_⟩, fun z hz => hwz z (List.mem_of_mem_take hz)⟩
    have h0 := hcell 0 (by omega)
    have hs : a'.spot = none := by
      have h1 : a'.add 0 = a' := by simp [Addr.add]
      rw [h1] at h0
      unfold World.cell? at h0
      split at h0
      · split at h0
        · cases h0
        · rename_i h2; simpa using h2
      · cases h0
    refine ⟨a'.block, a'.off, by cases a'; simp_all, ?_, fun j hj => ?_⟩
    · have h1 : MemPlace.cell a'.block a'.off ∈ p := by rw [hp]; exact MemPlace.mem_row.2 ⟨0, by omega, by simp⟩
      exact hlt _ h1
    · have h1 := hcell j (by omega)
      have e1 : a'.add j = ⟨a'.block, a'.off + j, none⟩ := by
        unfold Addr.add
        split
        · rename_i hj0; subst hj0; cases a'; simp_all
        · rfl
      rw [e1] at h1
      rw [h1, nth_take hj]
      rfl
end
end Go.Proofs.Ytkphmcaoioaglaa
