/- Stores of whole values, appends, new slices, slices of slices, calls. -/
import Derived.Test.YtkphmcaoioaglaaK4
import Derived.Laws.BytesString
set_option linter.unusedVariables false
set_option linter.unusedSimpArgs false
namespace Go.Proofs.Ytkphmcaoioaglaa
open Go Go.RowKit

section
variable {P : Program} {n : Nat} {L : Fr} {o : Oper} {w : World}
theorem op_run {K : Value → World → Prop} (h : ∀ a, Rep n L a → ∃ v w', (execOp a.eval o).run P w = .ok (.value v) w' ∧ K v w') : OpS P n L o w K := fun a ha => by
  obtain ⟨v, w', hr, hk⟩ := h a ha
  unfold Oper.wp
  rw [hr]
  exact ⟨v, rfl, hk⟩
theorem op_skip {K : Value → World → Prop} (h : ∀ a, Rep n L a → ∃ w', (execOp a.eval o).run P w = .ok .skip w' ∧ K undef w') : OpS P n L o w K := fun a ha => by
  obtain ⟨w', hr, hk⟩ := h a ha
  unfold Oper.wp
  rw [hr]
  exact ⟨undef, rfl, hk⟩
/-- cells from a place on -/
def putL : List Value → Nat → List Value → List Value
  | cs, _, [] => cs
  | cs, i, v :: vs => putL (cs.set i v) (i + 1) vs
theorem putL_len : ∀ (vs cs : List Value) (i : Nat), (putL cs i vs).length = cs.length
  | [], _, _ => rfl
  | v :: vs, cs, i => by simp only [putL]; rw [putL_len vs]; simp
theorem putL_take : ∀ (vs cs : List Value) (i m : Nat), i + vs.length ≤ m → (putL cs i vs).take m = putL (cs.take m) i vs
  | [], _, _, _, _ => rfl
  | v :: vs, cs, i, m, h => by
    simp only [List.length_cons] at h
    simp only [putL]
    rw [putL_take vs _ _ _ (by omega), List.take_set]
theorem store_cells {b : Nat} {T : TypeId} : ∀ (vs : List Value) (cs : List Value) (off i : Nat) (w : World), Blk w b cs T → off + i + vs.length ≤ cs.length → (∀ v ∈ vs, v.oneCell' = true) →
    ∃ w', (storeCells ⟨b, off, none⟩ vs i).run P w = .ok () w' ∧ Blk w' b (putL cs (off + i) vs) T ∧ w.grownBy w' (some b) ∧ w'.heap.size = w.heap.size
  | [], cs, off, i, w, h, _, _ => ⟨w, rfl, h, ⟨rfl, rfl, rfl, Nat.le_refl _, fun _ _ _ => rfl⟩, rfl⟩
  | v :: vs, cs, off, i, w, h, hl, h1 => by
    simp only [List.length_cons] at hl
    have hlt : off + i < cs.length := by omega
    have hc := h.cell (List.getElem?_eq_getElem hlt)
    have hs := run_st1 (P := P) (w := w) hc h.frozen (h1 v List.mem_cons_self)
    obtain ⟨w', hr, hb, hg, hz⟩ := store_cells vs (cs.set (off + i) v) off (i + 1) (w.setCell ⟨b, off + i, none⟩ v) (blk_set h) (by simp; omega) (fun u hu => h1 u (List.mem_cons_of_mem _ hu))
    refine ⟨w', ?_, hb, grown_tr grown_set hg, by simpa using hz⟩
    unfold storeCells
    rw [Sem.run_bind, add_at, hs]
    exact hr
def szB (P : Program) (t : TypeId) (k : Nat) : Bool := (P.info? t).map (·.size) == some k
theorem run_size {t : TypeId} {k : Nat} (h : szB P t k = true) : (sizeOf t).run P w = .ok k w := by
  unfold szB at h
  simp only [beq_iff_eq] at h
  cases hi : P.info? t with
  | none => rw [hi] at h; cases h
  | some i =>
    rw [hi] at h
    have : i.size = k := by simpa using h
    simp [sizeOf, typeInfo, hi, this]
theorem run_storeAt {t : TypeId} {b off : Nat} {cs vs : List Value} {T : TypeId} {v : Value} (h : Blk w b cs T) (hv : v.cells = vs.toArray) (ht : szB P t vs.length = true) (hl : off + vs.length ≤ cs.length) (h1 : ∀ v ∈ vs, v.oneCell' = true) :
    ∃ w', (Instr.storeAt t (.pointer (some ⟨b, off, none⟩)) v).run P w = .ok () w' ∧ Blk w' b (putL cs off vs) T ∧ w.grownBy w' (some b) := by
  obtain ⟨w', hr, hb, hg, _⟩ := store_cells (P := P) vs cs off 0 w h (by omega) h1
  refine ⟨w', ?_, by simpa using hb, hg⟩
  unfold Instr.storeAt storeVar
  simp only [Instr.sureAddr, Sem.run_bind, Sem.run_pure, Result.andThen_ok, run_size ht, hv]
  simpa using hr
/-- a store into a block of the call's own -/
theorem op_st {t : TypeId} {x y : Operand} {b off i : Nat} {cs vs : List Value} {T : TypeId} {v : Value} {w0 : World} {l m : List Ob} (H : HS w0 w l) (ho : o.op = .store t x y) (hx : ev L x = some (.pointer (some ⟨b, off, none⟩))) (hy : ev L y = some v)
    (hi : l[i]? = some (.blk b cs T)) (hv : v.cells = vs.toArray) (ht : szB P t vs.length = true) (hl : Nat.ble (off + vs.length) cs.length = true) (h1 : vs.all Value.oneCell' = true) (hm : l.set i (.blk b (putL cs off vs) T) = m) :
    OpS P n L o w (fun _ w' => HS w0 w' m) := op_skip fun a ha => by
  obtain ⟨w', hr, hb, hg⟩ := run_storeAt (P := P) (t := t) (off := off) (vs := vs) (v := v) (H.at_ hi).2 hv ht (Nat.le_of_ble_eq_true hl) (List.all_eq_true.1 h1)
  refine ⟨w', ?_, H.upd (o' := .blk b (putL cs off vs) T) hi hg ⟨(H.at_ hi).1, hb⟩ (fun _ h => .inl h) hm⟩
  unfold execOp
  simp only [ho, ha.ev hx, ha.ev hy, Sem.run_bind, hr, Result.andThen_ok, Sem.run_pure]
/-- .. into a slice of the call's own -/
theorem op_str {t e : TypeId} {x y : Operand} {b off i k cap size : Nat} {xs vs : List Value} {v : Value} {w0 : World} {l m : List Ob} (H : HS w0 w l) (ho : o.op = .store t x y) (hx : ev L x = some (.pointer (some ⟨b, off, none⟩))) (hy : ev L y = some v)
    (hi : l[i]? = some (.row (some ⟨b, 0, none⟩) k cap xs e size)) (hv : v.cells = vs.toArray) (ht : szB P t vs.length = true) (h0 : 0 < vs.length) (hl : off + vs.length ≤ xs.length) (h1 : vs.all Value.oneCell' = true) (hm : l.set i (.row (some ⟨b, 0, none⟩) k cap (putL xs off vs) e size) = m) :
    OpS P n L o w (fun _ w' => HS w0 w' m) := op_skip fun a ha => by
  have hO : Own _ _ _ _ _ _ _ _ := H.at_ hi
  obtain ⟨a1, a2, a3, a4 | ⟨g, cur, hA, hB, hh, hs, htk⟩⟩ := hO
  · have : k = 0 := by omega
    subst this
    have : xs.length = 0 := by simpa using a1
    omega
  · cases hA
    have hcur : cur.size = cur.toList.length := by simp
    have hle : xs.length ≤ cur.size := by rw [a1]; exact Nat.le_trans (Nat.mul_le_mul_right _ a2) hs
    have hBk : Blk w b cur.toList e := by unfold Blk; simpa using hh
    obtain ⟨w', hr, hb, hgr⟩ := run_storeAt (P := P) (t := t) (off := off) (vs := vs) (v := v) hBk hv ht (by rw [← hcur]; omega) (List.all_eq_true.1 h1)
    have hc0 : ¬ cap = 0 := fun h => by
      have : k = 0 := by omega
      subst this
      have : xs.length = 0 := by simpa using a1
      omega
    refine ⟨w', ?_, H.upd (o' := .row (some ⟨b, 0, none⟩) k cap (putL xs off vs) e size) hi (by simpa [Ob.block, hc0] using hgr) (show Own _ _ _ _ _ _ _ _ from ⟨by rw [putL_len]; exact a1, a2, a3, .inr ⟨b, (putL cur.toList off vs).toArray, rfl, hB, hb, by simpa [putL_len] using hs, ?_⟩⟩) (fun _ h => .inl h) hm⟩
    · unfold execOp
      simp only [ho, ha.ev hx, ha.ev hy, Sem.run_bind, hr, Result.andThen_ok, Sem.run_pure]
    · simp only
      rw [putL_take _ _ _ _ (by rw [← a1]; exact hl), htk]
/-- a literal slice -/
def fillB (P : Program) (t : TypeId) (k : Nat) : Bool := match P.underlying t with | some (.slice e) => (P.info? e).map (·.size) == some k | _ => false
def zl (z0 : List Value) (m : Nat) : List Value := (List.range m).map fun x => z0.getD (x % z0.length) default
theorem zl_eq (z0 : List Value) (m : Nat) : (Array.range m).map (z0.toArray[· % z0.toArray.size]!) = (zl z0 m).toArray := by
  apply Array.ext
  · simp [zl]
  · intro i h1 h2
    simp [zl, List.getD]
theorem op_lit {t e : TypeId} {len size : Nat} {w0 : World} {l : List Ob} {parts : List (Nat × Operand)} {vs : List (Nat × Value)} {cs z0 : List Value} (H : HS w0 w l) (ho : o.op = .buildSlice t len parts.toArray) (ht : P.underlying t = some (.slice e)) (hz : (P.info? e).map (fun i => (i.size, i.zero.map Value.cells)) = some (size, some z0.toArray))
    (hp : parts.map (·.1) = vs.map (·.1)) (hx : evl L (parts.map (·.2)) (vs.map (·.2))) (hle : Nat.ble (len * size) 16777216 = true) (hf : Instr.fill (fun i => some (i * size, size)) (zl z0 (len * size)).toArray vs = some cs.toArray) :
    OpS P n L o w (fun u w' => ∃ b, u = .slice (some ⟨b, 0, none⟩) len len ∧ HS w0 w' (.blk b cs e :: l)) := op_run fun a ha => by
  refine ⟨_, w.alloc (.cells cs.toArray e), ?_, _, rfl, H.new rfl⟩
  rw [← zl_eq] at hf
  have hmap : (parts.map fun (p : Nat × Operand) => (p.1, a.eval p.2)) = vs := by
    have h1 := evl_map ha hx
    rw [List.map_map] at h1
    have h2 : (parts.map fun (p : Nat × Operand) => (p.1, a.eval p.2)) = (parts.map (·.1)).zip (parts.map (a.eval ∘ (·.2))) := by
      rw [List.zip_map']; rfl
    rw [h2, h1, hp, List.zip_map']
    simp
  cases hi : P.info? e with
  | none => rw [hi] at hz; cases hz
  | some inf =>
    rw [hi] at hz
    simp only [Option.map_some, Option.some.injEq, Prod.mk.injEq] at hz
    obtain ⟨h1, h2⟩ := hz
    cases hzz : inf.zero with
    | none => rw [hzz] at h2; cases h2
    | some z =>
      have hzc : z.cells = z0.toArray := by simpa [hzz] using h2
      have hle' := Nat.le_of_ble_eq_true hle
      unfold execOp
      simp only [ho, List.map_toArray, hmap, Instr.buildSlice, Sem.run_bind, run_underlying ht w, Result.andThen_ok, sizeOf, typeInfo, run_program, hi, h1, Sem.run_pure]
      rw [Sem.run_ite, if_neg (by simpa using hle')]
      have e0 : ∀ f : Nat → Value, (Array.range 0).map f = #[] := fun f => by simp
      by_cases h0 : len * size = 0
      · rw [h0, e0] at hf
        simp [h0, e0, hf, newRow]
      · simp only [List.getElem!_toArray, List.size_toArray] at hf
        simp only [h0, if_false, zeroValue, typeInfo, hi, hzz, hzc, newRow, Sem.run_bind, run_program, Result.andThen_ok, Sem.run_pure, List.getElem!_toArray, List.size_toArray, hf, run_newObj, World.alloc_eq]
/-- a new slice of zeroes -/
theorem op_make {t e : TypeId} {x y : Operand} {k k' : IntKind} {m size bytes : Nat} {q q' : Int} {zs : List Value} {w0 : World} {l : List Ob} (H : HS w0 w l) (ho : o.op = .makeSlice t x y) (hx : ev L x = some (.int k q)) (hy : ev L y = some (.int k' q')) (hq : q = (m : Int)) (hq' : q' = (m : Int))
    (ht : P.underlying t = some (.slice e)) (hz : (P.info? e).map (fun i => (i.zero.map (·.cells.toList), i.size, i.bytes)) = some (some zs, size, bytes)) (hb : bytes * m ≤ 281474976710656) (hm : m ≤ maxLen) :
    OpS P n L o w (fun u w' => ∃ b, u = .slice (some ⟨b, 0, none⟩) m m ∧ HS w0 w' (.row (some ⟨b, 0, none⟩) m m (madeCells zs.toArray (m * size)).toList e size :: l)) := op_run fun a ha => by
  subst hq; subst hq'
  cases hi : P.info? e with
  | none => rw [hi] at hz; cases hz
  | some inf =>
    rw [hi] at hz
    simp only [Option.map_some, Option.some.injEq, Prod.mk.injEq] at hz
    obtain ⟨h1, h2, h3⟩ := hz
    cases hzz : inf.zero with
    | none => rw [hzz] at h1; cases h1
    | some z =>
      have hzc : z.cells = zs.toArray := by rw [hzz] at h1; simp only [Option.map_some, Option.some.injEq] at h1; rw [← h1]
      obtain ⟨w', hr, hown, hg⟩ := run_make_full (P := P) w w0.heap.size t e inf z size ht hi hzz h2 k k' m (by rw [h3]; exact hb) hm H.base.size
      rw [hzc] at hown
      refine ⟨_, w', ?_, w.heap.size, rfl, ?_⟩
      · unfold execOp
        simp only [ho, ha.ev hx, ha.ev hy, Sem.run_bind, hr, Result.andThen_ok, Sem.run_pure]
      · have h4 : HS w0 w' l := H.ext ⟨hg.os, hg.tape, hg.output, hg.size, fun k hk => hg.block k hk (by intro h; cases h)⟩
        refine h4.cons (own_of hown) fun o' ho' k hk hk' => ?_
        have : k = w.heap.size := by
          simp only [Ob.has, Ob.block] at hk
          split at hk
          · cases hk
          · cases hk; rfl
        subst this
        exact absurd (Ob.lt (H.own o' ho') _ hk').2 (Nat.lt_irrefl _)
/-- an append that must grow: a new slice -/
theorem app_grow {t ty e : TypeId} {inf : TypeInfo} {z : Value} {A : Option Addr} {ad : Addr} {k cap m c : Nat} {xs ys : List Value} {w0 : World} {l : List Ob} (H : HS w0 w l) (ht : P.underlying t = some (.slice e)) (hi : P.info? e = some inf) (hz : inf.zero = some z) (hzs : z.cells.size = inf.size)
    (hx : Rd w A xs) (hxl : xs.length = k * inf.size) (hkA : k = 0 ∨ A.isSome = true) (hA0 : A = none → cap = 0) (hyl : ys.length = m * inf.size) (hy : ∀ j u, ys[j]? = some u → w.cell? (ad.add j) = some u) (hg : cap < k + m) (h63 : k + m ≤ maxLen) (hb : (k + m) * inf.bytes ≤ 140737488355328) :
    ∃ v w', (Builtin.append_ #[t, t] ty #[.slice A k cap, .slice (some ad) m c]).run P w = .ok v w' ∧ ∃ b cap2, v = .slice (some ⟨b, 0, none⟩) (k + m) cap2 ∧ w.heap.size ≤ b ∧ Own w0.heap.size w' (some ⟨b, 0, none⟩) (k + m) cap2 (xs ++ ys) e inf.size ∧ Below w.heap.size w w' ∧ w'.heap.size = w.heap.size + 1 ∧ b = w.heap.size := by
  have hge := grownCap_ge w (k + m) cap e
  have hcm := grownCap_le_maxLen w (k + m) cap e h63
  have hm63 : ((k + m : Nat) : Int) ≤ 9223372036854775807 := by have := h63; unfold maxLen at this; omega
  have hlen : (xs ++ ys).length = (k + m) * inf.size := by rw [List.length_append, hxl, hyl, Nat.add_mul]
  have hbel : Below w.heap.size w (w.drew.alloc (.cells (xs.toArray ++ ys.toArray ++ Builtin.zeroCells z.cells (grownCap w (k + m) cap e - (k + m))) e)) := ((Below.refl _ _).drew).alloc (Nat.le_refl _) _
  have hown : Own w0.heap.size (w.drew.alloc (.cells (xs.toArray ++ ys.toArray ++ Builtin.zeroCells z.cells (grownCap w (k + m) cap e - (k + m))) e)) (some ⟨w.heap.size, 0, none⟩) (k + m) (grownCap w (k + m) cap e) (xs ++ ys) e inf.size := by
    refine ⟨hlen, hge, hcm, .inr ⟨w.heap.size, _, rfl, H.base.size, heap_alloc_new w.drew _, ?_, ?_⟩⟩
    · simp only [Array.size_append, List.size_toArray, size_zeroCells, hzs, hxl, hyl, ← Nat.add_mul]
      exact Nat.mul_le_mul_right _ (by omega)
    · simp only [Array.toList_append]
      rw [← hlen]
      exact List.take_left
  cases A with
  | some a =>
    have hxc : ∀ j u, xs[j]? = some u → w.cell? (a.add j) = some u := fun j u hu => by
      obtain ⟨b, off, e1, _, hc⟩ := hx j u hu
      cases e1
      rw [add_at]; exact hc
    have hr := run_append_grow (P := P) w t ty e inf z ht hi hz a k cap xs hxl hxc ad m c ys hyl hy (by omega) hm63 (growslice_fits (by omega) hb)
    exact ⟨_, _, hr, w.heap.size, _, rfl, Nat.le_refl _, hown, hbel, by simp, rfl⟩
  | none =>
    have hk : k = 0 := by rcases hkA with h | h; exact h; cases h
    have hc0 := hA0 rfl
    subst hk; subst hc0
    have hx0 : xs = [] := List.length_eq_zero_iff.1 (by simpa using hxl)
    subst hx0
    simp only [Nat.zero_add] at *
    have hr := run_append_nil (P := P) w t ty e inf z ht hi hz ad m c ys hyl hy (by omega) hm63 (by omega)
    simp only [List.nil_append] at hown
    have e0 : (#[] : Array Value) ++ ys.toArray = ys.toArray := by simp
    rw [e0] at hown hbel
    exact ⟨_, _, hr, w.heap.size, _, rfl, Nat.le_refl _, by simpa using hown, hbel, by simp, rfl⟩
theorem info_zero {e : TypeId} {size bytes : Nat} {zs : List Value} (hz : (P.info? e).map (fun i => (i.zero.map (·.cells.toList), i.size, i.bytes)) = some (some zs, size, bytes)) (hzs : zs.length = size) : ∃ inf z, P.info? e = some inf ∧ inf.zero = some z ∧ z.cells.size = inf.size ∧ inf.size = size ∧ inf.bytes = bytes := by
  cases hi' : P.info? e with
  | none => rw [hi'] at hz; cases hz
  | some inf =>
    rw [hi'] at hz
    simp only [Option.map_some, Option.some.injEq, Prod.mk.injEq] at hz
    obtain ⟨h2, h3, h4⟩ := hz
    cases hzz : inf.zero with
    | none => rw [hzz] at h2; cases h2
    | some z =>
      rw [hzz] at h2
      simp only [Option.map_some, Option.some.injEq] at h2
      exact ⟨inf, z, rfl, hzz, by rw [h3, ← hzs, ← h2]; simp, h3, h4⟩
theorem rd_zero {A : Option Addr} {ys : List Value} {m size : Nat} (hr : Rd w A ys) (hl : ys.length = m * size) (hs : 0 < size) (hA : A = none) : ys = [] ∧ m = 0 := by
  subst hA
  have hys : ys = [] := by
    cases ys with
    | nil => rfl
    | cons u ys => obtain ⟨_, _, e, _⟩ := hr 0 u rfl; cases e
  subst hys
  refine ⟨rfl, ?_⟩
  rcases Nat.eq_zero_or_pos m with h | h
  · exact h
  · have := Nat.mul_pos h hs; simp at hl; omega
/-- append of what reads as ys to a slice of the call's own -/
theorem op_app {t e : TypeId} {x y : Operand} {i k cap m c size bytes : Nat} {A A' : Option Addr} {xs ys zs : List Value} {w0 : World} {l : List Ob} (H : HS w0 w l) (ho : o.op = .call { callee := .builtin .append, args := #[x, y], argTypes := #[t, t] })
    (hx : ev L x = some (.slice A k cap)) (hy : ev L y = some (.slice A' m c)) (hi : l[i]? = some (.row A k cap xs e size)) (hr : Rd w A' ys) (hl : ys.length = m * size) (h1 : ys.all Value.oneCell' = true)
    (ht : P.underlying t = some (.slice e)) (hz : (P.info? e).map (fun i => (i.zero.map (·.cells.toList), i.size, i.bytes)) = some (some zs, size, bytes)) (hzs : zs.length = size) (hsz : Nat.blt 0 size = true) (h63 : k + m ≤ maxLen) (hb : (k + m) * bytes ≤ 140737488355328) :
    OpS P n L o w (fun u w' => ∃ A2 cap2, u = .slice A2 (k + m) cap2 ∧ HS w0 w' (l.set i (.row A2 (k + m) cap2 (xs ++ ys) e size))) := op_run fun a ha => by
  have hsz' : 0 < size := by simpa [Nat.blt_eq] using hsz
  obtain ⟨inf, z, hi', hzz, hzc, h3, h4⟩ := info_zero hz hzs
  subst h3; subst h4
  have hO : Own _ _ _ _ _ _ _ _ := H.at_ hi
  have fin : ∀ v w', (Builtin.append_ #[t, t] o.type #[.slice A k cap, .slice A' m c]).run P w = .ok v w' → (execOp a.eval o).run P w = .ok (.value v) w' := fun v w' h => by
    unfold execOp
    simp only [ho, resolve, invoke, builtin, Sem.run_bind, Sem.run_pure, Result.andThen_ok, List.map_toArray, List.map_cons, List.map_nil, ha.ev hx, ha.ev hy, h]
  have same : m = 0 → ys = [] → (Builtin.append_ #[t, t] o.type #[.slice A k cap, .slice A' m c]).run P w = .ok (.slice A k cap) w := fun hm hys => by
    subst hm; subst hys
    have hkc := hO.2.1
    have hf : ∀ ad : Addr, (loadCells ad 0).run P w = .ok #[] w := fun ad => rfl
    cases A <;> cases A' <;> simp [Builtin.append_, run_underlying ht, sizeOf, typeInfo, hi', Builtin.lenOf, Builtin.firstCells, hkc, storeCells, hf]
  by_cases hm0 : m = 0
  · have hys : ys = [] := List.length_eq_zero_iff.1 (by rw [hl, hm0]; simp)
    refine ⟨_, w, fin _ _ (same hm0 hys), A, cap, by rw [hm0]; rfl, ?_⟩
    have e : l.set i (.row A (k + m) cap (xs ++ ys) e inf.size) = l := by
      rw [hm0, hys, Nat.add_zero, List.append_nil]
      obtain ⟨hil, he⟩ := List.getElem?_eq_some_iff.1 hi
      rw [← he]; exact List.set_getElem_self hil
    rw [e]; exact H
  cases A' with
  | none => exact absurd (rd_zero hr hl hsz' rfl).2 hm0
  | some ad =>
    have had : ∀ j u, ys[j]? = some u → w.cell? (ad.add j) = some u := fun j u hu => by
      obtain ⟨b, off, e1, _, hc⟩ := hr j u hu
      cases e1
      rw [add_at]; exact hc
    by_cases hroom : k + m ≤ cap
    · obtain ⟨a1, a2, a3, a4 | ⟨g, cur, hA, hB, hh, hs, htk⟩⟩ := hO
      · omega
      · subst hA
        have hfit : k * inf.size + ys.length ≤ cur.size := by
          rw [hl, ← Nat.add_mul]; exact Nat.le_trans (Nat.mul_le_mul_right _ hroom) hs
        have hrun := run_append_room (P := P) w t o.type e inf ht hi' g k cap cur hh ad m c ys hl had (List.all_eq_true.1 h1) hroom hfit
        refine ⟨_, _, fin _ _ hrun, _, cap, rfl, H.wrote hi (w' := w.setRow g _) ?_ (show Own _ _ _ _ _ _ _ _ from ⟨by rw [List.length_append, a1, hl, Nat.add_mul], hroom, a3, .inr ⟨g, _, rfl, hB, setRow_heap w g cur _ e _ hh, ?_, ?_⟩⟩) (fun _ h => .inl h)⟩
        · refine ⟨rfl, rfl, rfl, by simp, fun j _ hj => setRow_other w g j _ (fun e => hj ?_)⟩
          subst e
          simp only [Ob.has, Ob.block]
          rw [if_neg (by omega)]; rfl
        · simp only [List.size_toArray, List.length_append, List.length_take, List.length_drop, Array.length_toList]
          omega
        · have : (xs ++ ys).length = (k + m) * inf.size := by rw [List.length_append, a1, hl, Nat.add_mul]
          rw [htk, ← this]
          exact List.take_left
    · obtain ⟨v, w', hrun, b, cap2, hv, hb', hown, hbel, _, _⟩ := app_grow (P := P) (ty := o.type) (c := c) H ht hi' hzz hzc (Own.rd hO) hO.1 (by
        rcases hO.2.2.2 with h | ⟨g, cur, hA, _⟩
        · exact .inl (by have := hO.2.1; omega)
        · exact .inr (by rw [hA]; rfl)) (fun hA => by
          rcases hO.2.2.2 with h | ⟨g, cur, hA', _⟩
          · exact h
          · rw [hA] at hA'; cases hA') hl had (by omega) h63 hb
      subst hv
      refine ⟨_, w', fin _ _ hrun, _, cap2, rfl, H.wrote hi (grown_below hbel _) hown fun k' hk' => .inr ?_⟩
      simp only [Ob.has, Ob.block] at hk'
      split at hk'
      · cases hk'
      · cases hk'; exact hb'
/-- append to whatever has no room left: a new slice -/
theorem op_appx {t e : TypeId} {x y : Operand} {k m c size bytes : Nat} {A A' : Option Addr} {xs ys zs : List Value} {w0 : World} {l : List Ob} (H : HS w0 w l) (hrx : Rd w A xs) (hxl : xs.length = k * size) (ho : o.op = .call { callee := .builtin .append, args := #[x, y], argTypes := #[t, t] })
    (hx : ev L x = some (.slice A k k)) (hy : ev L y = some (.slice A' m c)) (hr : Rd w A' ys) (hl : ys.length = m * size)
    (ht : P.underlying t = some (.slice e)) (hz : (P.info? e).map (fun i => (i.zero.map (·.cells.toList), i.size, i.bytes)) = some (some zs, size, bytes)) (hzs : zs.length = size) (hsz : Nat.blt 0 size = true) (h63 : k + m ≤ maxLen) (hb : (k + m) * bytes ≤ 140737488355328) (hk0 : k = 0 ∨ 0 < m) :
    OpS P n L o w (fun u w' => ∃ A2 cap2, u = .slice A2 (k + m) cap2 ∧ HS w0 w' (.row A2 (k + m) cap2 (xs ++ ys) e size :: l)) := op_run fun a ha => by
  have hsz' : 0 < size := by simpa [Nat.blt_eq] using hsz
  obtain ⟨inf, z, hi', hzz, hzc, h3, h4⟩ := info_zero hz hzs
  subst h3; subst h4
  have fin : ∀ v w', (Builtin.append_ #[t, t] o.type #[.slice A k k, .slice A' m c]).run P w = .ok v w' → (execOp a.eval o).run P w = .ok (.value v) w' := fun v w' h => by
    unfold execOp
    simp only [ho, resolve, invoke, builtin, Sem.run_bind, Sem.run_pure, Result.andThen_ok, List.map_toArray, List.map_cons, List.map_nil, ha.ev hx, ha.ev hy, h]
  by_cases hm0 : m = 0
  · have hk : k = 0 := by omega
    subst hm0; subst hk
    have hys : ys = [] := List.length_eq_zero_iff.1 (by rw [hl]; simp)
    have hxs : xs = [] := List.length_eq_zero_iff.1 (by rw [hxl]; simp)
    subst hys; subst hxs
    have hf : ∀ ad : Addr, (loadCells ad 0).run P w = .ok #[] w := fun ad => rfl
    refine ⟨_, w, fin _ _ (by cases A <;> cases A' <;> simp [Builtin.append_, run_underlying ht, sizeOf, typeInfo, hi', Builtin.lenOf, Builtin.firstCells, storeCells, hf]), A, 0, rfl, ?_⟩
    exact H.cons (show Own _ _ _ _ _ _ _ _ from ⟨by simp, Nat.le_refl _, Nat.zero_le _, .inl rfl⟩) fun _ _ k hk => by simp [Ob.has, Ob.block] at hk
  cases A' with
  | none => exact absurd (rd_zero hr hl hsz' rfl).2 hm0
  | some ad =>
    have had : ∀ j u, ys[j]? = some u → w.cell? (ad.add j) = some u := fun j u hu => by
      obtain ⟨b, off, e1, _, hc⟩ := hr j u hu
      cases e1
      rw [add_at]; exact hc
    obtain ⟨v, w', hrun, b, cap2, hv, hb', hown, hbel, _, hbw⟩ := app_grow (P := P) (ty := o.type) (c := c) H ht hi' hzz hzc hrx hxl (by
      cases A with
      | none => exact .inl (rd_zero hrx hxl hsz' rfl).2
      | some a => exact .inr rfl) (fun hA => (rd_zero hrx hxl hsz' hA).2) hl had (by omega) h63 hb
    subst hv
    refine ⟨_, w', fin _ _ hrun, _, cap2, rfl, (H.ext hbel).cons hown fun o' ho' k' hk' hk2 => ?_⟩
    simp only [Ob.has, Ob.block] at hk'
    split at hk'
    · cases hk'
    · have hbk : k' = b := by cases hk'; rfl
      have := (Ob.lt (H.own o' ho') _ hk2).2
      omega
/-! slices of slices -/
def subA (A : Option Addr) (cap lo size : Nat) : Option Addr := if cap = lo then A else A.map (·.add (lo * size))
theorem Rd.slice {A : Option Addr} {xs : List Value} {cap lo hi size : Nat} (h : Rd w A xs) (h1 : lo ≤ hi) (h2 : hi ≤ cap) : Rd w (subA A cap lo size) ((xs.take (hi * size)).drop (lo * size)) := fun j u hu => by
  rw [List.getElem?_drop, List.getElem?_take] at hu
  split at hu
  · rename_i hlt
    obtain ⟨b, off, e, hb, hc⟩ := h _ u hu
    subst e
    unfold subA
    split
    · rename_i e
      subst e
      have : hi = cap := by omega
      subst this
      omega
    · refine ⟨b, off + lo * size, by simp [add_at], hb, ?_⟩
      rw [Nat.add_assoc]; exact hc
  · cases hu
theorem y_slice {t : TypeId} {x : Operand} {ol oh om : Option Operand} {vl vh vm : Option Value} {A : Option Addr} {len cap size lo hi mx : Nat} (ho : o.op = .slice t x ol oh om) (hx : ev L x = some (.slice A len cap)) (ht : elB P t size = true)
    (hl : ∀ a, Rep n L a → ol.map a.eval = vl) (hh : ∀ a, Rep n L a → oh.map a.eval = vh) (hm : ∀ a, Rep n L a → om.map a.eval = vm) (hb : (Instr.sliceBounds true len cap vl vh vm).run P w = .ok (lo, hi, mx) w) :
    Yd P n L o (.slice (if mx = lo then A else A.map (·.add (lo * size))) (hi - lo) (mx - lo)) w := fun a ha => by
  unfold elB at ht
  split at ht
  · rename_i e hu
    simp only [beq_iff_eq] at ht
    have hs : szB P e size = true := by unfold szB; simp [ht]
    unfold execOp
    simp only [ho, ha.ev hx, hl a ha, hh a ha, hm a ha, Instr.sliceAt, Instr.slice, Sem.run_bind, run_underlying hu w, Result.andThen_ok, hb, run_size hs, Sem.run_pure]
  · cases ht
theorem ev_some {x : Operand} {v : Value} (h : ev L x = some v) : ∀ a, Rep n L a → (some x).map a.eval = some v := fun a ha => by rw [Option.map_some, ha.ev h]
theorem ev_none : ∀ a, Rep n L a → (none : Option Operand).map a.eval = none := fun _ _ => rfl
/-- x[lo:hi] -/
theorem y_slh {t : TypeId} {x p q : Operand} {k k' : IntKind} {A : Option Addr} {len cap size lo hi : Nat} {a b : Int} (ho : o.op = .slice t x (some p) (some q) none) (hx : ev L x = some (.slice A len cap)) (hp : ev L p = some (.int k a)) (hq : ev L q = some (.int k' b)) (ht : elB P t size = true)
    (ha : a = (lo : Int)) (hb : b = (hi : Int)) (h1 : lo ≤ hi) (h2 : hi ≤ cap) : Yd P n L o (.slice (subA A cap lo size) (hi - lo) (cap - lo)) w := by
  subst ha; subst hb
  refine y_slice ho hx ht (ev_some hp) (ev_some hq) ev_none ?_
  simp [Instr.sliceBounds, run_sliceBound, h1, h2]
/-- x[lo:] -/
theorem y_sl {t : TypeId} {x p : Operand} {k : IntKind} {A : Option Addr} {len cap size lo : Nat} {a : Int} (ho : o.op = .slice t x (some p) none none) (hx : ev L x = some (.slice A len cap)) (hp : ev L p = some (.int k a)) (ht : elB P t size = true)
    (ha : a = (lo : Int)) (h1 : lo ≤ len) : Yd P n L o (.slice (subA A cap lo size) (len - lo) (cap - lo)) w := by
  subst ha
  refine y_slice ho hx ht (ev_some hp) ev_none ev_none ?_
  simp [Instr.sliceBounds, run_sliceBound, h1]
/-- x[:hi] -/
theorem y_sh {t : TypeId} {x q : Operand} {k : IntKind} {A : Option Addr} {len cap size hi : Nat} {b : Int} (ho : o.op = .slice t x none (some q) none) (hx : ev L x = some (.slice A len cap)) (hq : ev L q = some (.int k b)) (ht : elB P t size = true)
    (hb : b = (hi : Int)) (h2 : hi ≤ cap) : Yd P n L o (.slice (subA A cap 0 size) hi cap) w := by
  subst hb
  refine y_slice ho hx ht ev_none (ev_some hq) ev_none ?_
  simp [Instr.sliceBounds, run_sliceBound, h2]
/-- x[:hi:mx] -/
theorem y_shm {t : TypeId} {x q p : Operand} {k k' : IntKind} {A : Option Addr} {len cap size hi mx : Nat} {b c : Int} (ho : o.op = .slice t x none (some q) (some p)) (hx : ev L x = some (.slice A len cap)) (hq : ev L q = some (.int k b)) (hp : ev L p = some (.int k' c)) (ht : elB P t size = true)
    (hb : b = (hi : Int)) (hc : c = (mx : Int)) (h1 : hi ≤ mx) (h2 : mx ≤ cap) : Yd P n L o (.slice (subA A mx 0 size) hi mx) w := by
  subst hb; subst hc
  refine y_slice ho hx ht ev_none (ev_some hq) (ev_some hp) ?_
  simp [Instr.sliceBounds, run_sliceBound, h1, h2]
/-! elements of slices: the place k of A -/
def pt (A : Option Addr) (k : Nat) : Value := .pointer (A.map (·.add k))
theorem Rd.some {A : Option Addr} {xs : List Value} {k : Nat} {u : Value} (h : Rd w A xs) (hk : xs[k]? = some u) : ∃ b off, A = .some ⟨b, off, none⟩ ∧ b < w.heap.size ∧ w.cell? ⟨b, off + k, none⟩ = .some u := h k u hk
theorem y_iar {t : TypeId} {x y : Operand} {k : IntKind} {A : Option Addr} {xs : List Value} {u : Value} {len cap size i p : Nat} {q : Int} (hr : Rd w A xs) (ho : o.op = .indexAddr t x y) (hx : ev L x = some (.slice A len cap)) (hy : ev L y = some (.int k q)) (ht : elB P t size = true)
    (hq : q = (i : Int)) (hi : i < len) (hp : i * size = p) (hu : xs[p]? = some u) : Yd P n L o (pt A p) w := by
  obtain ⟨b, off, e, _, _⟩ := hr p u hu
  subst e
  have := y_ia (P := P) (n := n) (w := w) (p := off + p) ho hx hy ht rfl hq hi (by rw [hp])
  unfold pt
  rw [Option.map_some, add_at]
  exact this
theorem y_ldr {t : TypeId} {x : Operand} {A : Option Addr} {xs : List Value} {k : Nat} {v : Value} (hr : Rd w A xs) (ho : o.op = .load t x) (hx : ev L x = some (pt A k)) (ht : oneB P t = true) (hv : xs[k]? = some v) : Yd P n L o v w := by
  obtain ⟨b, off, e, _, hc⟩ := hr k v hv
  subst e
  unfold pt at hx
  rw [Option.map_some, add_at] at hx
  exact y_ld ho hx ht hc
theorem y_ldra {t : TypeId} {x : Operand} {A : Option Addr} {xs cs : List Value} {k m : Nat} (hr : Rd w A xs) (ho : o.op = .load t x) (hx : ev L x = some (pt A k)) (ht : aggB P t m = true) (hl : cs.length = m) (h0 : 0 < m) (hv : ∀ j v, cs[j]? = some v → xs[k + j]? = some v) : Yd P n L o (.agg cs.toArray) w := by
  have h1 : cs[0]? = some cs[0] := List.getElem?_eq_getElem (by omega)
  obtain ⟨b, off, e, _, _⟩ := hr _ _ (hv 0 _ h1)
  subst e
  unfold pt at hx
  rw [Option.map_some, add_at] at hx
  refine y_lda ho hx ht hl fun j v hj => ?_
  obtain ⟨b', off', e', _, hc⟩ := hr _ _ (hv j v hj)
  cases e'
  rw [Nat.add_assoc]; exact hc
theorem y_far {t : TypeId} {x : Operand} {A : Option Addr} {xs : List Value} {f k m p : Nat} {u : Value} (hr : Rd w A xs) (ho : o.op = .fieldAddr t x f) (hx : ev L x = some (pt A k)) (ht : fldB P t f m = true) (hm : k + m = p) (hu : xs[k]? = some u) : Yd P n L o (pt A p) w := by
  subst hm
  obtain ⟨b, off, e, _, _⟩ := hr _ _ hu
  subst e
  unfold pt at *
  rw [Option.map_some, add_at] at hx ⊢
  rw [← Nat.add_assoc]
  exact y_fa ho hx ht rfl
/-- a store to an element of a slice of the call's own -/
theorem op_ste {t e : TypeId} {x y : Operand} {A : Option Addr} {k i m cap size : Nat} {xs vs : List Value} {v : Value} {w0 : World} {l r : List Ob} (H : HS w0 w l) (ho : o.op = .store t x y) (hx : ev L x = some (pt A k)) (hy : ev L y = some v)
    (hi : l[i]? = some (.row A m cap xs e size)) (hv : v.cells = vs.toArray) (ht : szB P t vs.length = true) (h0 : Nat.blt 0 vs.length = true) (hl : k + vs.length ≤ xs.length) (h1 : vs.all Value.oneCell' = true) (hm : l.set i (.row A m cap (putL xs k vs) e size) = r) :
    OpS P n L o w (fun _ w' => HS w0 w' r) := by
  have h0' : 0 < vs.length := by simpa [Nat.blt_eq] using h0
  have hO : Own _ _ _ _ _ _ _ _ := H.at_ hi
  obtain ⟨a1, a2, a3, a4 | ⟨g, cur, hA, _⟩⟩ := hO
  · have : m = 0 := by omega
    subst this
    have : xs.length = 0 := by simpa using a1
    omega
  · subst hA
    unfold pt at hx
    rw [Option.map_some, add_addr] at hx
    exact op_str H ho hx hy hi hv ht h0' hl h1 hm
/-- a struct's literal -/
theorem mapM_all {α β : Type} {g : α → Sem β} {q : α → Option β} (hg : ∀ x y, q x = some y → (g x).run P w = .ok y w) : ∀ (xs : List α) (ys : List β), xs.map q = ys.map some → (xs.mapM g).run P w = .ok ys w
  | [], [], _ => by simp
  | x :: xs, y :: ys, h => by
    simp only [List.map_cons, List.cons.injEq] at h
    have ih := mapM_all hg xs ys h.2
    rw [List.mapM_cons]
    simp only [Sem.run_bind, Sem.run_pure, hg x y h.1, Result.andThen_ok, ih]
theorem mapM_places {fs : List Field} {places : List (Nat × Nat)} (h : fs.map (fun f => (P.info? f.type).map (fun i => (f.offset, i.size))) = places.map some) : (fs.mapM (m := Sem) fun f => do pure (f.offset, ← sizeOf f.type)).run P w = .ok places w :=
  mapM_all (fun f y hy => by
    cases hi : P.info? f.type with
    | none => rw [hi] at hy; cases hy
    | some inf =>
      rw [hi] at hy
      simp only [Option.map_some, Option.some.injEq] at hy
      subst hy
      simp [sizeOf, typeInfo, hi]) _ _ h
theorem y_build {t : TypeId} {fs : List Field} {places : List (Nat × Nat)} {parts : List (Nat × Operand)} {vs : List (Nat × Value)} {z0 cs : List Value} (ho : o.op = .build t parts.toArray) (hu : P.underlying t = some (.struct fs.toArray))
    (hpl : fs.map (fun f => (P.info? f.type).map (fun i => (f.offset, i.size))) = places.map some) (hz : (P.info? t).bind (fun i => i.zero.map Value.cells) = some z0.toArray) (hp : parts.map (·.1) = vs.map (·.1)) (hx : evl L (parts.map (·.2)) (vs.map (·.2)))
    (hf : Instr.fill (places.toArray[·]?) z0.toArray vs = some cs.toArray) : Yd P n L o (.agg cs.toArray) w := fun a ha => by
  have hmap : (parts.map fun (p : Nat × Operand) => (p.1, a.eval p.2)) = vs := by
    have h1 := evl_map ha hx
    rw [List.map_map] at h1
    have h2 : (parts.map fun (p : Nat × Operand) => (p.1, a.eval p.2)) = (parts.map (·.1)).zip (parts.map (a.eval ∘ (·.2))) := by
      rw [List.zip_map']; rfl
    rw [h2, h1, hp, List.zip_map']
    simp
  cases hi : P.info? t with
  | none => rw [hi] at hz; cases hz
  | some inf =>
    rw [hi] at hz
    cases hzz : inf.zero with
    | none => simp [hzz] at hz
    | some z =>
      have hzc : z.cells = z0.toArray := by simpa [hzz] using hz
      unfold execOp
      simp only [ho, List.map_toArray, hmap, Instr.build, zeroValue, typeInfo, Sem.run_bind, run_program, Result.andThen_ok, hi, hzz, hzc, Sem.run_pure, run_underlying hu w, Array.mapM_eq_mapM_toList, Sem.run_map, mapM_places hpl, hf]
/-! calls -/
def callB (P : Program) (f : FuncId) : Bool := match P.funcs[f]? with | some fn => !(fn.name == "runtime.NumGoroutine") && fn.body.isSome | none => false
theorem op_call {f : FuncId} {xs : List Operand} {ts : Array TypeId} {vs : List Value} {R : Value → World → Prop} (hc : Ret P f vs w R) (ho : o.op = .call { callee := .value (.func f), args := xs.toArray, argTypes := ts }) (hf : callB P f = true) (hx : evl L xs vs) : OpS P n L o w R := fun a ha => by
  have : (execOp a.eval o).run P w = .ok (.enter f vs.toArray) w := by
    unfold callB at hf
    split at hf
    · rename_i fn hfn
      simp only [Bool.and_eq_true, Bool.not_eq_true', beq_eq_false_iff_ne, ne_eq] at hf
      obtain ⟨h1, h2⟩ := hf
      have h3 : ¬ fn.body = none := by cases hb : fn.body <;> simp_all
      unfold execOp
      simp [ho, resolve, evl_map ha hx, Act.eval, Deferred.ofValue, invoke, callFunc, hfn, h1, h3]
    · cases hf
  unfold Oper.wp
  rw [this]
  refine Calls.mono hc fun e w' ⟨v, he, hR⟩ => ?_
  subst he
  exact ⟨v, rfl, hR⟩
end
end Go.Proofs.Ytkphmcaoioaglaa
