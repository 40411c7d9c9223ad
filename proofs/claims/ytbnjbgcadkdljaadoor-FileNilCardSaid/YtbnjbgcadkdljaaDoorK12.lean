/- Arrays as values: their literals, their elements; a field of a value; a byte of a string. -/
import Derived.Test.YtbnjbgcadkdljaaDoorMC
set_option linter.unusedVariables false
set_option linter.unusedSimpArgs false
namespace Go.Proofs.YtbnjbgcadkdljaaDoor
open Go Go.RowKit

section
variable {P : Program} {n : Nat} {L : Fr} {o : Oper} {w : World}
theorem y_builda {t e : TypeId} {len size : Nat} {parts : List (Nat × Operand)} {vs : List (Nat × Value)} {z0 cs : List Value} (ho : o.op = .build t parts.toArray) (hu : P.underlying t = some (.array len e)) (hs : szB P e size = true)
    (hz : (P.info? t).bind (fun i => i.zero.map Value.cells) = some z0.toArray) (hp : parts.map (·.1) = vs.map (·.1)) (hx : evl L (parts.map (·.2)) (vs.map (·.2)))
    (hf : Instr.fill (fun i => some (i * size, size)) z0.toArray vs = some cs.toArray) : Yd P n L o (.agg cs.toArray) w := fun a ha => by
  have hmap : (parts.map fun (p : Nat × Operand) => (p.1, a.eval p.2)) = vs := by
    have h1 := evl_map ha hx
    rw [List.map_map] at h1
    have h2 : (parts.map fun (p : Nat × Operand) => (p.1, a.eval p.2)) = (parts.map (·.1)).zip (parts.map (a.eval ∘ (·.2))) := by
      rw [List.zip_map']; rfl
    rw [h2, h1, hp, List.zip_map']
    simp
  cases hi : P.info? t with
  | none => rw [hi] at hz; cases hz
  | some inf =>
    rw [hi] at hz
    cases hzz : inf.zero with
    | none => simp [hzz] at hz
    | some z =>
      have hzc : z.cells = z0.toArray := by simpa [hzz] using hz
      unfold execOp
      simp only [ho, List.map_toArray, hmap, Instr.build, zeroValue, typeInfo, Sem.run_bind, run_program, Result.andThen_ok, hi, hzz, hzc, Sem.run_pure, run_underlying hu w, run_size hs, hf]
/-- an element that is made of several cells -/
theorem y_index {t e : TypeId} {x y : Operand} {k : IntKind} {len size i : Nat} {q : Int} {cs es : List Value} (ho : o.op = .index t x y) (hu : P.underlying t = some (.array len e)) (hx : ev L x = some (.agg cs.toArray)) (hy : ev L y = some (.int k q)) (hq : q = (i : Int)) (hi : i < len)
    (he : aggB P e size = true) (hes : (cs.drop (i * size)).take size = es) : Yd P n L o (.agg es.toArray) w := fun a ha => by
  obtain ⟨h1, h2⟩ := isAgg_agg (w := w) he
  subst hq; subst hes
  unfold execOp
  simp only [ho, ha.ev hx, ha.ev hy, Instr.index, asIntOf, Sem.run_bind, Sem.run_pure, Result.andThen_ok, run_underlying hu w]
  rw [if_pos ⟨by omega, by omega⟩]
  simp only [part, Sem.run_bind, h1, h2, Result.andThen_ok, Sem.run_pure, if_true, Int.toNat_natCast]
  simp [List.take_drop, Nat.add_comm]
/-- .. of one cell -/
theorem y_index1 {t e : TypeId} {x y : Operand} {k : IntKind} {len i : Nat} {q : Int} {cs : List Value} {v : Value} (ho : o.op = .index t x y) (hu : P.underlying t = some (.array len e)) (hx : ev L x = some (.agg cs.toArray)) (hy : ev L y = some (.int k q)) (hq : q = (i : Int)) (hi : i < len)
    (he : oneB P e = true) (hs : szB P e 1 = true) (hv : cs[i]? = some v) : Yd P n L o v w := fun a ha => by
  subst hq
  unfold execOp
  simp only [ho, ha.ev hx, ha.ev hy, Instr.index, asIntOf, Sem.run_bind, Sem.run_pure, Result.andThen_ok, run_underlying hu w]
  rw [if_pos ⟨by omega, by omega⟩]
  simp [part, Sem.run_bind, isAgg_one (w := w) he, run_size (w := w) hs, hv]
/-- a field of a value, of one cell -/
theorem y_field1 {t : TypeId} {x : Operand} {f : Nat} {fs : List Field} {fd : Field} {cs : List Value} {v : Value} (ho : o.op = .field t x f) (hu : P.underlying t = some (.struct fs.toArray)) (hx : ev L x = some (.agg cs.toArray)) (hf : fs[f]? = some fd) (he : oneB P fd.type = true) (hv : cs[fd.offset]? = some v) : Yd P n L o v w := fun a ha => by
  unfold execOp
  simp [ho, ha.ev hx, Instr.field, asAgg, Sem.run_bind, run_underlying hu w, hf, part, isAgg_one (w := w) he, hv]
/-- .. of several -/
theorem y_field {t : TypeId} {x : Operand} {f size : Nat} {fs : List Field} {fd : Field} {cs es : List Value} (ho : o.op = .field t x f) (hu : P.underlying t = some (.struct fs.toArray)) (hx : ev L x = some (.agg cs.toArray)) (hf : fs[f]? = some fd) (he : aggB P fd.type size = true) (hes : (cs.drop fd.offset).take size = es) : Yd P n L o (.agg es.toArray) w := fun a ha => by
  obtain ⟨h1, h2⟩ := isAgg_agg (w := w) he
  subst hes
  unfold execOp
  simp [ho, ha.ev hx, Instr.field, asAgg, Sem.run_bind, run_underlying hu w, hf, part, h1, h2, List.take_drop, Nat.add_comm]
/-- a byte of a string -/
theorem y_indexs {t : TypeId} {x y : Operand} {k : IntKind} {i : Nat} {q : Int} {s : ByteArray} {b : UInt8} (ho : o.op = .index t x y) (hu : P.underlying t = some .string) (hx : ev L x = some (.string s)) (hy : ev L y = some (.int k q)) (hq : q = (i : Int)) (hb : s[i]? = some b) : Yd P n L o (.int .u8 (b.toNat : Int)) w := fun a ha => by
  subst hq
  unfold execOp
  simp only [ho, ha.ev hx, ha.ev hy, Instr.index, asIntOf, Sem.run_bind, Sem.run_pure, Result.andThen_ok, run_underlying hu w]
  rw [if_pos (by omega), Int.toNat_natCast, hb]
  rfl
end
end Go.Proofs.YtbnjbgcadkdljaaDoor
