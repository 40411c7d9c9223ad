/- Operations that read, make and write memory. -/
import Derived.Test.YtkphmcaoioaglaaK3
import Derived.Laws.Slices
set_option linter.unusedVariables false
set_option linter.unusedSimpArgs false
namespace Go.Proofs.Ytkphmcaoioaglaa
open Go Go.RowKit

/-! closed facts on types -/
/-- a type of one cell that is no struct and no array -/
def oneB (P : Program) (t : TypeId) : Bool := match P.underlying t with | some (.struct _) | some (.array _ _) => false | some _ => true | none => false
def aggB (P : Program) (t : TypeId) (k : Nat) : Bool := (match P.underlying t with | some (.struct _) | some (.array _ _) => true | _ => false) && ((P.info? t).map (·.size) == some k)
def fldB (P : Program) (t : TypeId) (i k : Nat) : Bool := match P.underlying t with
  | some (.struct fs) => match fs[i]? with | some f => f.offset == k && (match (P.info? f.type).map (·.size) with | some (_ + 1) => true | _ => false) | none => false
  | _ => false
def elB (P : Program) (t : TypeId) (size : Nat) : Bool := match P.underlying t with | some (.slice e) => (P.info? e).map (·.size) == some size | _ => false
section
variable {P : Program} {n : Nat} {L : Fr} {o : Oper} {w : World}
theorem isAgg_one {t : TypeId} (h : oneB P t = true) : (isAgg t).run P w = .ok false w := by
  unfold oneB at h
  unfold isAgg
  cases hu : P.underlying t with
  | none => rw [hu] at h; cases h
  | some d =>
    rw [Sem.run_bind, run_underlying hu w]
    rw [hu] at h
    cases d <;> simp_all
theorem isAgg_agg {t : TypeId} {k : Nat} (h : aggB P t k = true) : (isAgg t).run P w = .ok true w ∧ (sizeOf t).run P w = .ok k w := by
  unfold aggB at h
  simp only [Bool.and_eq_true, beq_iff_eq] at h
  obtain ⟨h1, h2⟩ := h
  constructor
  · unfold isAgg
    cases hu : P.underlying t with
    | none => rw [hu] at h1; cases h1
    | some d =>
      rw [Sem.run_bind, run_underlying hu w]
      rw [hu] at h1
      cases d <;> simp_all
  · cases hi : P.info? t with
    | none => rw [hi] at h2; cases h2
    | some i =>
      rw [hi] at h2
      have : i.size = k := by simpa using h2
      simp [sizeOf, typeInfo, hi, this]
theorem y_ld {t : TypeId} {x : Operand} {ad : Addr} {v : Value} (ho : o.op = .load t x) (hx : ev L x = some (.pointer (some ad))) (ht : oneB P t = true) (hc : w.cell? ad = some v) : Yd P n L o v w := fun a ha => by
  unfold execOp
  have : (loadVar t ad).run P w = .ok v w := by
    unfold loadVar
    rw [Sem.run_bind, isAgg_one ht]
    simp [hc]
  simp only [ho, ha.ev hx, Instr.loadAt, Instr.sureAddr, Sem.run_bind, Sem.run_pure, Result.andThen_ok, this]
theorem add_at (b off j : Nat) : (⟨b, off, none⟩ : Addr).add j = ⟨b, off + j, none⟩ := by unfold Addr.add; split <;> simp_all
theorem load_agg {t : TypeId} {b off k : Nat} {cs : List Value} (ht : aggB P t k = true) (hl : cs.length = k) (hc : ∀ j v, cs[j]? = some v → w.cell? ⟨b, off + j, none⟩ = some v) : (loadVar t ⟨b, off, none⟩).run P w = .ok (.agg cs.toArray) w := by
  unfold loadVar
  rw [Sem.run_bind, (isAgg_agg ht).1]
  simp only [Result.andThen_ok, if_true, Sem.run_bind, (isAgg_agg (w := w) ht).2]
  have := run_loadCells_list (P := P) w ⟨b, off, none⟩ cs (fun j v hv => by rw [add_at]; exact hc j v hv)
  rw [hl] at this
  simp [this]
theorem y_lda {t : TypeId} {x : Operand} {b off k : Nat} {cs : List Value} (ho : o.op = .load t x) (hx : ev L x = some (.pointer (some ⟨b, off, none⟩))) (ht : aggB P t k = true) (hl : cs.length = k)
    (hc : ∀ j v, cs[j]? = some v → w.cell? ⟨b, off + j, none⟩ = some v) : Yd P n L o (.agg cs.toArray) w := fun a ha => by
  unfold execOp
  simp only [ho, ha.ev hx, Instr.loadAt, Instr.sureAddr, Sem.run_bind, Sem.run_pure, Result.andThen_ok, load_agg ht hl hc]
/-- a whole block of the call's own -/
theorem y_ldb {t T : TypeId} {x : Operand} {b k i : Nat} {cs : List Value} {w0 : World} {l : List Ob} (H : HS w0 w l) (ho : o.op = .load t x) (hx : ev L x = some (.pointer (some ⟨b, 0, none⟩))) (ht : aggB P t k = true) (hi : l[i]? = some (.blk b cs T)) (hl : cs.length = k) : Yd P n L o (.agg cs.toArray) w :=
  y_lda ho hx ht hl fun j v hv => by rw [Nat.zero_add]; exact H.cell hi hv
theorem y_fa {t : TypeId} {x : Operand} {f b off k m : Nat} (ho : o.op = .fieldAddr t x f) (hx : ev L x = some (.pointer (some ⟨b, off, none⟩))) (ht : fldB P t f k = true) (hm : off + k = m) : Yd P n L o (.pointer (some ⟨b, m, none⟩)) w := fun a ha => by
  subst hm
  unfold fldB at ht
  split at ht
  · rename_i fs hu
    split at ht
    · rename_i fd hf
      simp only [Bool.and_eq_true, beq_iff_eq] at ht
      obtain ⟨h1, h2⟩ := ht
      have hs : ∃ m, (sizeOf fd.type).run P w = .ok (m + 1) w := by
        cases hi : P.info? fd.type with
        | none => rw [hi] at h2; cases h2
        | some inf =>
          rw [hi] at h2
          simp only [Option.map_some] at h2
          cases hz : inf.size with
          | zero => rw [hz] at h2; cases h2
          | succ m => exact ⟨m, by simp [sizeOf, typeInfo, hi, hz]⟩
      obtain ⟨m, hm⟩ := hs
      unfold execOp
      simp only [ho, ha.ev hx, Instr.fieldAt, Instr.sureAddr, Sem.run_bind, Sem.run_pure, Result.andThen_ok, run_underlying hu w, hf, fieldPlace, hm, Nat.add_one_ne_zero, if_false, Sem.run_ite, h1, add_at]
    · cases ht
  · cases ht
/-- the place of an element -/
theorem y_ia {t : TypeId} {x y : Operand} {k : IntKind} {A : Option Addr} {len cap size b off i p : Nat} {q : Int} (ho : o.op = .indexAddr t x y) (hx : ev L x = some (.slice A len cap)) (hy : ev L y = some (.int k q)) (ht : elB P t size = true)
    (hA : A = some ⟨b, off, none⟩) (hq : q = (i : Int)) (hi : i < len) (hp : off + i * size = p) : Yd P n L o (.pointer (some ⟨b, p, none⟩)) w := fun a ha => by
  subst hp; subst hq; subst hA
  unfold elB at ht
  split at ht
  · rename_i e hu
    simp only [beq_iff_eq] at ht
    cases hie : P.info? e with
    | none => rw [hie] at ht; cases ht
    | some inf =>
      rw [hie] at ht
      have hsz : inf.size = size := by simpa using ht
      unfold execOp
      have h0 : (0 : Int) ≤ (i : Int) ∧ (i : Int) < (len : Int) := by omega
      simp [ho, ha.ev hx, ha.ev hy, Instr.indexAt, asIntOf, run_underlying hu w, h0, sizeOf, typeInfo, hie, hsz, add_at]
      omega
  · cases ht
/-- a box -/
theorem op_box {t : TypeId} {x : Operand} {v : Value} {cs : List Value} {w0 : World} {l : List Ob} (H : HS w0 w l) (ho : o.op = .box t x) (hx : ev L x = some v) (hc : v.cells = cs.toArray) :
    OpS P n L o w (fun u w' => ∃ b, u = .pointer (some ⟨b, 0, none⟩) ∧ HS w0 w' (.blk b cs t :: l)) := fun a ha => by
  have : (execOp a.eval o).run P w = .ok (.value (.pointer (some ⟨w.heap.size, 0, none⟩))) (w.alloc (.cells v.cells t)) := by
    unfold execOp
    simp [ho, ha.ev hx, Instr.box, newVar, newRow]
  unfold Oper.wp
  rw [this, hc]
  exact ⟨_, rfl, _, rfl, H.new rfl⟩
theorem op_alloc {t : TypeId} {cs : List Value} {w0 : World} {l : List Ob} (H : HS w0 w l) (ho : o.op = .alloc t) (hz : (P.info? t).bind (fun i => i.zero.map Value.cells) = some cs.toArray) :
    OpS P n L o w (fun u w' => ∃ b, u = .pointer (some ⟨b, 0, none⟩) ∧ HS w0 w' (.blk b cs t :: l)) := fun a ha => by
  have : (execOp a.eval o).run P w = .ok (.value (.pointer (some ⟨w.heap.size, 0, none⟩))) (w.alloc (.cells cs.toArray t)) := by
    cases hi : P.info? t with
    | none => rw [hi] at hz; cases hz
    | some inf =>
      rw [hi] at hz
      cases hz2 : inf.zero with
      | none => simp [hz2] at hz
      | some z =>
        have hzc : z.cells = cs.toArray := by simpa [hz2] using hz
        unfold execOp
        simp [ho, Instr.alloc, zeroValue, typeInfo, hi, hz2, newVar, newRow, hzc]
  unfold Oper.wp
  rw [this]
  exact ⟨_, rfl, _, rfl, H.new rfl⟩
/-- a cell of a block is written -/
theorem blk_set {b off : Nat} {cs : List Value} {T : TypeId} {v : Value} (h : Blk w b cs T) : Blk (w.setCell ⟨b, off, none⟩ v) b (cs.set off v) T := by
  unfold Blk at *
  have h1 := heap_setCell_same w b off _ T v h
  rw [h1]
  simp
theorem grown_set {b off : Nat} {v : Value} : w.grownBy (w.setCell ⟨b, off, none⟩ v) (some b) :=
  ⟨rfl, rfl, rfl, by simp, fun k _ hne => Below.heap_setCell _ _ _ _ (fun e => hne (by rw [e]))⟩
theorem HS.set_ {i b off : Nat} {cs : List Value} {T : TypeId} {v : Value} {w0 : World} {l m : List Ob} (H : HS w0 w l) (hi : l[i]? = some (.blk b cs T)) (hm : l.set i (.blk b (cs.set off v) T) = m) : HS w0 (w.setCell ⟨b, off, none⟩ v) m :=
  H.upd (o' := .blk b (cs.set off v) T) hi grown_set ⟨(H.at_ hi).1, blk_set (H.at_ hi).2⟩ (fun _ h => .inl h) hm
theorem Blk.frozen {b j : Nat} {cs : List Value} {T : TypeId} (h : Blk w b cs T) : w.frozen? ⟨b, j, none⟩ = false := frozen_of_row w b j _ T h
theorem run_st1 {ad : Addr} {u v : Value} (hc : w.cell? ad = some u) (hf : w.frozen? ad = false) (h1 : v.oneCell' = true) : (store ad v).run P w = .ok () (w.setCell ad v) := by
  rw [run_store P w ad v _ h1]
  simp [hc, hf]
end
end Go.Proofs.Ytkphmcaoioaglaa
