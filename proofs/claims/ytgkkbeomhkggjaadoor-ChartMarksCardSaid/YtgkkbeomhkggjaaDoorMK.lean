/- Texts as one: K12, K13, K14. -/
import Derived.Test.YtgkkbeomhkggjaaDoorMC
import Derived.Lib.BufferMore
set_option linter.unusedVariables false
set_option linter.unusedSimpArgs false
namespace Go.Proofs.YtgkkbeomhkggjaaDoor
open Go Go.RowKit

section
variable {P : Program} {n : Nat} {L : Fr} {o : Oper} {w : World}
theorem y_builda {t e : TypeId} {len size : Nat} {parts : List (Nat × Operand)} {vs : List (Nat × Value)} {z0 cs : List Value} (ho : o.op = .build t parts.toArray) (hu : P.underlying t = some (.array len e)) (hs : szB P e size = true)
    (hz : (P.info? t).bind (fun i => i.zero.map Value.cells) = some z0.toArray) (hp : parts.map (·.1) = vs.map (·.1)) (hx : evl L (parts.map (·.2)) (vs.map (·.2)))
    (hf : Instr.fill (fun i => some (i * size, size)) z0.toArray vs = some cs.toArray) : Yd P n L o (.agg cs.toArray) w := fun a ha => by
  have hmap : (parts.map fun (p : Nat × Operand) => (p.1, a.eval p.2)) = vs := by
    have h1 := evl_map ha hx
    rw [List.map_map] at h1
    have h2 : (parts.map fun (p : Nat × Operand) => (p.1, a.eval p.2)) = (parts.map (·.1)).zip (parts.map (a.eval ∘ (·.2))) := by
      rw [List.zip_map']; rfl
    rw [h2, h1, hp, List.zip_map']
    simp
  cases hi : P.info? t with
  | none => rw [hi] at hz; cases hz
  | some inf =>
    rw [hi] at hz
    cases hzz : inf.zero with
    | none => simp [hzz] at hz
    | some z =>
      have hzc : z.cells = z0.toArray := by simpa [hzz] using hz
      unfold execOp
      simp only [ho, List.map_toArray, hmap, Instr.build, zeroValue, typeInfo, Sem.run_bind, run_program, Result.andThen_ok, hi, hzz, hzc, Sem.run_pure, run_underlying hu w, run_size hs, hf]
/-- an element that is made of several cells -/
theorem y_index {t e : TypeId} {x y : Operand} {k : IntKind} {len size i : Nat} {q : Int} {cs es : List Value} (ho : o.op = .index t x y) (hu : P.underlying t = some (.array len e)) (hx : ev L x = some (.agg cs.toArray)) (hy : ev L y = some (.int k q)) (hq : q = (i : Int)) (hi : i < len)
    (he : aggB P e size = true) (hes : (cs.drop (i * size)).take size = es) : Yd P n L o (.agg es.toArray) w := fun a ha => by
  obtain ⟨h1, h2⟩ := isAgg_agg (w := w) he
  subst hq; subst hes
  unfold execOp
  simp only [ho, ha.ev hx, ha.ev hy, Instr.index, asIntOf, Sem.run_bind, Sem.run_pure, Result.andThen_ok, run_underlying hu w]
  rw [if_pos ⟨by omega, by omega⟩]
  simp only [part, Sem.run_bind, h1, h2, Result.andThen_ok, Sem.run_pure, if_true, Int.toNat_natCast]
  simp [List.take_drop, Nat.add_comm]
/-- .. of one cell -/
theorem y_index1 {t e : TypeId} {x y : Operand} {k : IntKind} {len i : Nat} {q : Int} {cs : List Value} {v : Value} (ho : o.op = .index t x y) (hu : P.underlying t = some (.array len e)) (hx : ev L x = some (.agg cs.toArray)) (hy : ev L y = some (.int k q)) (hq : q = (i : Int)) (hi : i < len)
    (he : oneB P e = true) (hs : szB P e 1 = true) (hv : cs[i]? = some v) : Yd P n L o v w := fun a ha => by
  subst hq
  unfold execOp
  simp only [ho, ha.ev hx, ha.ev hy, Instr.index, asIntOf, Sem.run_bind, Sem.run_pure, Result.andThen_ok, run_underlying hu w]
  rw [if_pos ⟨by omega, by omega⟩]
  simp [part, Sem.run_bind, isAgg_one (w := w) he, run_size (w := w) hs, hv]
/-- a field of a value, of one cell -/
theorem y_field1 {t : TypeId} {x : Operand} {f : Nat} {fs : List Field} {fd : Field} {cs : List Value} {v : Value} (ho : o.op = .field t x f) (hu : P.underlying t = some (.struct fs.toArray)) (hx : ev L x = some (.agg cs.toArray)) (hf : fs[f]? = some fd) (he : oneB P fd.type = true) (hv : cs[fd.offset]? = some v) : Yd P n L o v w := fun a ha => by
  unfold execOp
  simp [ho, ha.ev hx, Instr.field, asAgg, Sem.run_bind, run_underlying hu w, hf, part, isAgg_one (w := w) he, hv]
/-- .. of several -/
theorem y_field {t : TypeId} {x : Operand} {f size : Nat} {fs : List Field} {fd : Field} {cs es : List Value} (ho : o.op = .field t x f) (hu : P.underlying t = some (.struct fs.toArray)) (hx : ev L x = some (.agg cs.toArray)) (hf : fs[f]? = some fd) (he : aggB P fd.type size = true) (hes : (cs.drop fd.offset).take size = es) : Yd P n L o (.agg es.toArray) w := fun a ha => by
  obtain ⟨h1, h2⟩ := isAgg_agg (w := w) he
  subst hes
  unfold execOp
  simp [ho, ha.ev hx, Instr.field, asAgg, Sem.run_bind, run_underlying hu w, hf, part, h1, h2, List.take_drop, Nat.add_comm]
/-- a byte of a string -/
theorem y_indexs {t : TypeId} {x y : Operand} {k : IntKind} {i : Nat} {q : Int} {s : ByteArray} {b : UInt8} (ho : o.op = .index t x y) (hu : P.underlying t = some .string) (hx : ev L x = some (.string s)) (hy : ev L y = some (.int k q)) (hq : q = (i : Int)) (hb : s[i]? = some b) : Yd P n L o (.int .u8 (b.toNat : Int)) w := fun a ha => by
  subst hq
  unfold execOp
  simp only [ho, ha.ev hx, ha.ev hy, Instr.index, asIntOf, Sem.run_bind, Sem.run_pure, Result.andThen_ok, run_underlying hu w]
  rw [if_pos (by omega), Int.toNat_natCast, hb]
  rfl
end
end Go.Proofs.YtgkkbeomhkggjaaDoor

namespace Go.Proofs.YtgkkbeomhkggjaaDoor
open Go Go.RowKit
section
variable {P : Program} {n : Nat} {L : Fr} {o : Oper} {w : World}
theorem equal_func_nil {t : TypeId} {f : Fn} {ps rs : Array TypeId} {v : Bool} {a b : Array Value} (ht : P.underlying t = some (.func ps rs v)) : (binOp .eql t (.func f a b) .nilFunc).run P w = .ok (.bool false) w := by
  have h : ∀ d : Nat, (Op.equalIn (d + 1) t (.func f a b) .nilFunc).run P w = .ok false w := fun d => by
    simp [Op.equalIn, run_underlying ht]
  simp only [binOp]
  simp [Op.equal, Op.maxDepth, h 9999]
theorem equal_nil_func {t : TypeId} {ps rs : Array TypeId} {v : Bool} (ht : P.underlying t = some (.func ps rs v)) : (binOp .eql t .nilFunc .nilFunc).run P w = .ok (.bool true) w := by
  have h : ∀ d : Nat, (Op.equalIn (d + 1) t .nilFunc .nilFunc).run P w = .ok true w := fun d => by
    simp [Op.equalIn, run_underlying ht]
  simp only [binOp]
  simp [Op.equal, Op.maxDepth, h 9999]
theorem y_feql {t t' : TypeId} {x y : Operand} {f : Fn} {ps rs : Array TypeId} {v : Bool} {a b : Array Value} (ho : o.op = .binOp .eql t x y t') (ht : P.underlying t = some (.func ps rs v)) (hx : ev L x = some (.func f a b)) (hy : ev L y = some .nilFunc) : Yd P n L o (.bool false) w :=
  y_eq2 ho hx hy rfl (equal_func_nil ht)
theorem y_feqln {t t' : TypeId} {x y : Operand} {ps rs : Array TypeId} {v : Bool} (ho : o.op = .binOp .eql t x y t') (ht : P.underlying t = some (.func ps rs v)) (hx : ev L x = some .nilFunc) (hy : ev L y = some .nilFunc) : Yd P n L o (.bool true) w :=
  y_eq2 ho hx hy rfl (equal_nil_func ht)
end
end Go.Proofs.YtgkkbeomhkggjaaDoor

namespace Go.Proofs.YtgkkbeomhkggjaaDoor
open Go Go.RowKit

theorem putL_lt : ∀ (vs cs : List Value) (i j : Nat), j < i → (putL cs i vs)[j]? = cs[j]?
  | [], _, _, _, _ => rfl
  | v :: vs, cs, i, j, h => by
    show (putL (cs.set i v) (i + 1) vs)[j]? = _
    rw [putL_lt vs _ (i + 1) j (by omega), List.getElem?_set_ne (by omega)]
section
variable {P : Program} {n : Nat} {L : Fr} {o : Oper} {w : World}
/-- append where there is room: in its place -/
theorem op_appr {t e : TypeId} {x y : Operand} {i k cap m c size bytes : Nat} {A A' : Option Addr} {xs ys zs : List Value} {w0 : World} {l : List Ob} (H : HS w0 w l) (ho : o.op = .call { callee := .builtin .append, args := #[x, y], argTypes := #[t, t] })
    (hx : ev L x = some (.slice A k cap)) (hy : ev L y = some (.slice A' m c)) (hi : l[i]? = some (.row A k cap xs e size)) (hr : Rd w A' ys) (hl : ys.length = m * size) (h1 : ys.all Value.oneCell' = true)
    (ht : P.underlying t = some (.slice e)) (hz : (P.info? e).map (fun i => (i.zero.map (·.cells.toList), i.size, i.bytes)) = some (some zs, size, bytes)) (hzs : zs.length = size) (hsz : Nat.blt 0 size = true) (hm0 : 0 < m) (hroom : k + m ≤ cap) :
    OpS P n L o w (fun u w' => u = .slice A (k + m) cap ∧ HS w0 w' (l.set i (.row A (k + m) cap (xs ++ ys) e size))) := op_run fun a ha => by
  have hsz' : 0 < size := by simpa [Nat.blt_eq] using hsz
  obtain ⟨inf, z, hi', hzz, hzc, h3, h4⟩ := info_zero hz hzs
  subst h3; subst h4
  have hO : Own _ _ _ _ _ _ _ _ := H.at_ hi
  have fin : ∀ v w', (Builtin.append_ #[t, t] o.type #[.slice A k cap, .slice A' m c]).run P w = .ok v w' → (execOp a.eval o).run P w = .ok (.value v) w' := fun v w' h => by
    unfold execOp
    simp only [ho, resolve, invoke, builtin, Sem.run_bind, Sem.run_pure, Result.andThen_ok, List.map_toArray, List.map_cons, List.map_nil, ha.ev hx, ha.ev hy, h]
  cases A' with
  | none => exact absurd (rd_zero hr hl hsz' rfl).2 (by omega)
  | some ad =>
    have had : ∀ j u, ys[j]? = some u → w.cell? (ad.add j) = some u := fun j u hu => by
      obtain ⟨b, off, e1, _, hc⟩ := hr j u hu
      cases e1
      rw [add_at]; exact hc
    obtain ⟨a1, a2, a3, a4 | ⟨g, cur, hA, hB, hh, hs, htk⟩⟩ := hO
    · omega
    · subst hA
      have hfit : k * inf.size + ys.length ≤ cur.size := by
        rw [hl, ← Nat.add_mul]; exact Nat.le_trans (Nat.mul_le_mul_right _ hroom) hs
      have hrun := run_append_room (P := P) w t o.type e inf ht hi' g k cap cur hh ad m c ys hl had (List.all_eq_true.1 h1) hroom hfit
      refine ⟨_, _, fin _ _ hrun, rfl, H.wrote hi (w' := w.setRow g _) ?_ (show Own _ _ _ _ _ _ _ _ from ⟨by rw [List.length_append, a1, hl, Nat.add_mul], hroom, a3, .inr ⟨g, _, rfl, hB, setRow_heap w g cur _ e _ hh, ?_, ?_⟩⟩) (fun _ h => .inl h)⟩
      · refine ⟨rfl, rfl, rfl, by simp, fun j _ hj => setRow_other w g j _ (fun e => hj ?_)⟩
        subst e
        simp only [Ob.has, Ob.block]
        rw [if_neg (by omega)]; rfl
      · simp only [List.size_toArray, List.length_append, List.length_take, List.length_drop, Array.length_toList]
        omega
      · have : (xs ++ ys).length = (k + m) * inf.size := by rw [List.length_append, a1, hl, Nat.add_mul]
        rw [htk, ← this]
        exact List.take_left
/-- clear of what lies behind a row's length, within its room -/
theorem op_clr {t e : TypeId} {x : Operand} {i k cap m c size bytes : Nat} {A : Option Addr} {xs zs : List Value} {w0 : World} {l : List Ob} (H : HS w0 w l) (ho : o.op = .call { callee := .builtin .clear, args := #[x], argTypes := #[t] })
    (hx : ev L x = some (.slice (subA A cap k size) m c)) (hi : l[i]? = some (.row A k cap xs e size)) (ht : P.underlying t = some (.slice e))
    (hz : (P.info? e).map (fun i => (i.zero.map (·.cells.toList), i.size, i.bytes)) = some (some zs, size, bytes)) (hzs : zs.length = size) (h1 : zs.all Value.oneCell' = true) (hm0 : 0 < m) (hroom : k + m ≤ cap) :
    OpS P n L o w (fun u w' => HS w0 w' l) := op_run fun a ha => by
  obtain ⟨inf, z, hi', hzz, hzc, h3, h4⟩ := info_zero hz hzs
  have hzl0 : z.cells.toList = zs := by
    rw [hi'] at hz
    simp only [Option.map_some, Option.some.injEq, Prod.mk.injEq, hzz] at hz
    exact hz.1
  subst h3; subst h4
  have hO : Own _ _ _ _ _ _ _ _ := H.at_ hi
  obtain ⟨a1, a2, a3, a4 | ⟨g, cur, hA, hB, hh, hs, htk⟩⟩ := hO
  · omega
  · subst hA
    have hBk : Blk w g cur.toList e := by unfold Blk; simpa using hh
    have hzl : (Builtin.zeroCells z.cells m).toList.length = m * inf.size := by
      simp only [Builtin.zeroCells, Array.length_toList, Array.size_map, Array.size_range]
      rw [hzc]
    have hone : ∀ u ∈ (Builtin.zeroCells z.cells m).toList, u.oneCell' = true := fun u hu => by
      have hu' : u ∈ Builtin.zeroCells z.cells m := Array.mem_toList_iff.1 hu
      simp only [Builtin.zeroCells, Array.mem_map, Array.mem_range] at hu'
      obtain ⟨j, hj, rfl⟩ := hu'
      have h0 : 0 < z.cells.size := by
        rcases Nat.eq_zero_or_pos z.cells.size with q | q
        · rw [q] at hj; omega
        · exact q
      have hlt : j % z.cells.size < z.cells.size := Nat.mod_lt _ h0
      rw [getElem!_pos z.cells _ hlt]
      have := List.all_eq_true.1 h1 z.cells[j % z.cells.size] (by rw [← hzl0]; exact Array.mem_toList_iff.2 (Array.getElem_mem hlt))
      exact this
    have hfit : k * inf.size + (Builtin.zeroCells z.cells m).toList.length ≤ cur.toList.length := by
      rw [hzl, Array.length_toList, ← Nat.add_mul]; exact Nat.le_trans (Nat.mul_le_mul_right _ hroom) hs
    obtain ⟨w', hst, hb, hgr, _⟩ := store_cells (P := P) (Builtin.zeroCells z.cells m).toList cur.toList (k * inf.size) 0 w hBk (by omega) hone
    have hc0 : ¬ cap = 0 := by omega
    have hsub : subA (some ⟨g, 0, none⟩) cap k inf.size = some ⟨g, k * inf.size, none⟩ := by
      unfold subA
      rw [if_neg (by omega)]
      simp only [Option.map_some, add_at, Nat.zero_add]
    rw [hsub] at hx
    refine ⟨.tuple #[], w', ?_, H.upd (o' := .row (some ⟨g, 0, none⟩) k cap xs e inf.size) hi (by simpa [Ob.block, hc0] using hgr) (show Own _ _ _ _ _ _ _ _ from ⟨a1, a2, a3, .inr ⟨g, (putL cur.toList (k * inf.size) (Builtin.zeroCells z.cells m).toList).toArray, rfl, hB, by simpa [Blk] using hb, by simpa [putL_len] using hs, ?_⟩⟩) (fun _ h => .inl (by simpa [Ob.has, Ob.block, hc0] using h)) ?_⟩
    · obtain ⟨m', rfl⟩ : ∃ m', m = m' + 1 := ⟨m - 1, by omega⟩
      unfold execOp
      simp [ho, resolve, invoke, builtin, ha.ev hx, Builtin.clear_, run_underlying ht, zeroValue, typeInfo, hi', hzz, hst, Result.andThen]
    · rw [← htk]
      apply List.ext_getElem?
      intro j
      rw [List.getElem?_take, List.getElem?_take]
      split
      · rename_i hj
        exact putL_lt _ _ _ _ (by rw [← a1, ← htk, List.length_take] at hj; omega)
      · rfl
    · obtain ⟨hil, he⟩ := List.getElem?_eq_some_iff.1 hi
      rw [← he]; exact List.set_getElem_self hil
/-- build, over lists: parts of several cells too -/
def bfillF (place : Nat → Option (Nat × Nat)) : List Value → List (Nat × List Value) → Option (List Value)
  | cs, [] => some cs
  | cs, (i, es) :: r => match place i with
    | none => none
    | some (off, size) => cond (Nat.beq es.length size && Nat.ble (off + es.length) cs.length) (bfillF place (putL cs off es) r) none
theorem bfoldl_put (off : Nat) : ∀ (es : List Value) (k : Nat) (cs : Array Value),
    (es.zipIdx k).foldl (fun (cs : Array Value) (x : Value × Nat) => cs.setIfInBounds (off + x.2) x.1) cs = (putL cs.toList (off + k) es).toArray
  | [], k, cs => by simp [putL]
  | e :: es, k, cs => by
    have ih := bfoldl_put off es (k + 1) (cs.setIfInBounds (off + k) e)
    simp only [List.zipIdx_cons, List.foldl_cons, Array.toList_setIfInBounds] at ih ⊢
    simp only [putL]
    rw [← Nat.add_assoc] at ih
    exact ih
theorem bfill_fun {place : Nat → Option (Nat × Nat)} : ∀ (vs : List (Nat × Value)) (ess : List (Nat × List Value)) (z cs : List Value), vs.map (fun x => (x.1, x.2.cells)) = ess.map (fun x => (x.1, x.2.toArray)) → bfillF place z ess = some cs →
    Instr.fill place z.toArray vs = some cs.toArray
  | [], [], z, cs, _, h => by
    simp only [bfillF, Option.some.injEq] at h
    simp [Instr.fill, h]
  | [], _ :: _, _, _, h, _ => by simp at h
  | _ :: _, [], _, _, h, _ => by simp at h
  | (i, v) :: vs, (j, es) :: ess, z, cs, hv, h => by
    simp only [List.map_cons, List.cons.injEq, Prod.mk.injEq] at hv
    obtain ⟨⟨rfl, hc⟩, hr⟩ := hv
    unfold bfillF at h
    unfold Instr.fill
    cases hp : place i with
    | none => rw [hp] at h; cases h
    | some q =>
      obtain ⟨off, size⟩ := q
      rw [hp] at h
      simp only at h ⊢
      cases hb : (Nat.beq es.length size && Nat.ble (off + es.length) z.length) with
      | false => rw [hb] at h; cases h
      | true =>
        rw [hb] at h
        simp only [Bool.and_eq_true, Nat.ble_eq] at hb
        have hb1 := Nat.eq_of_beq_eq_true hb.1
        simp only [cond_true] at h
        rw [hc]
        have hno : ¬ (es.toArray.size ≠ size || decide (off + es.toArray.size > z.toArray.size)) = true := by
          simp only [List.size_toArray, Bool.or_eq_true, decide_eq_true_eq, not_or]
          exact ⟨fun q => q hb1, by omega⟩
        rw [if_neg (by simpa using hno)]
        have hf := bfoldl_put off es 0 z.toArray
        rw [Nat.add_zero] at hf
        have ih := bfill_fun vs ess (putL z off es) cs hr h
        rw [← ih]
        congr 1
        rw [← Array.foldl_toList, Array.toList_zipIdx]
        exact hf
theorem bfill_list {places : List (Nat × Nat)} (vs : List (Nat × Value)) (ess : List (Nat × List Value)) (z cs : List Value) (h1 : vs.map (fun x => (x.1, x.2.cells)) = ess.map (fun x => (x.1, x.2.toArray))) (h2 : bfillF (places[·]?) z ess = some cs) :
    Instr.fill (places.toArray[·]?) z.toArray vs = some cs.toArray := by
  have e : (fun x : Nat => places.toArray[x]?) = (fun x : Nat => places[x]?) := by funext x; simp
  rw [e]
  exact bfill_fun vs ess z cs h1 h2
theorem op_litL {t e : TypeId} {len size : Nat} {w0 : World} {l : List Ob} {parts : List (Nat × Operand)} {vs : List (Nat × Value)} {cs z0 : List Value} (ess : List (Nat × List Value)) (H : HS w0 w l) (ho : o.op = .buildSlice t len parts.toArray) (ht : P.underlying t = some (.slice e)) (hz : (P.info? e).map (fun i => (i.size, i.zero.map Value.cells)) = some (size, some z0.toArray))
    (hp : parts.map (·.1) = vs.map (·.1)) (hx : evl L (parts.map (·.2)) (vs.map (·.2))) (hle : Nat.ble (len * size) 16777216 = true) (he : vs.map (fun x => (x.1, x.2.cells)) = ess.map (fun x => (x.1, x.2.toArray))) (hf : bfillF (fun i => some (i * size, size)) (zl z0 (len * size)) ess = some cs) :
    OpS P n L o w (fun u w' => ∃ b, u = .slice (some ⟨b, 0, none⟩) len len ∧ HS w0 w' (.blk b cs e :: l)) :=
  op_lit H ho ht hz hp hx hle (bfill_fun vs ess _ cs he hf)
theorem y_buildL {t : TypeId} {fs : List Field} {places : List (Nat × Nat)} {parts : List (Nat × Operand)} {vs : List (Nat × Value)} {z0 cs : List Value} (ess : List (Nat × List Value)) (ho : o.op = .build t parts.toArray) (hu : P.underlying t = some (.struct fs.toArray))
    (hpl : fs.map (fun f => (P.info? f.type).map (fun i => (f.offset, i.size))) = places.map some) (hz : (P.info? t).bind (fun i => i.zero.map Value.cells) = some z0.toArray) (hp : parts.map (·.1) = vs.map (·.1)) (hx : evl L (parts.map (·.2)) (vs.map (·.2)))
    (he : vs.map (fun x => (x.1, x.2.cells)) = ess.map (fun x => (x.1, x.2.toArray))) (hf : bfillF (places[·]?) z0 ess = some cs) : Yd P n L o (.agg cs.toArray) w :=
  y_build ho hu hpl hz hp hx (bfill_list vs ess z0 cs he hf)
/-- x[lo:hi:mx] -/
theorem y_slhm {t : TypeId} {x p q r : Operand} {k k' k'' : IntKind} {A : Option Addr} {len cap size lo hi mx : Nat} {a b c : Int} (ho : o.op = .slice t x (some p) (some q) (some r)) (hx : ev L x = some (.slice A len cap)) (hp : ev L p = some (.int k a)) (hq : ev L q = some (.int k' b)) (hr : ev L r = some (.int k'' c)) (ht : elB P t size = true)
    (ha : a = (lo : Int)) (hb : b = (hi : Int)) (hc : c = (mx : Int)) (h0 : lo ≤ hi) (h1 : hi ≤ mx) (h2 : mx ≤ cap) : Yd P n L o (.slice (subA A mx lo size) (hi - lo) (mx - lo)) w := by
  subst ha; subst hb; subst hc
  refine y_slice ho hx ht (ev_some hp) (ev_some hq) (ev_some hr) ?_
  simp [Instr.sliceBounds, run_sliceBound, h0, h1, h2]
end
end Go.Proofs.YtgkkbeomhkggjaaDoor
