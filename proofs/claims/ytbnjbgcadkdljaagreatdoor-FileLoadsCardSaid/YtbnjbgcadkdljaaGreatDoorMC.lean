/- Texts as one: K7, K8, K9, KT, KL, K10, K11. -/
import Derived.Test.YtbnjbgcadkdljaaGreatDoorMB
import Derived.Lib.SliceRun
import Derived.Laws.StructEq
import Derived.Laws.CopyRow
import Derived.Laws.MakeOwn
import Derived.LoopN
set_option linter.unusedVariables false
set_option linter.unusedSimpArgs false
namespace Go.Proofs.YtbnjbgcadkdljaaGreatDoor
open Go Go.RowKit

theorem tdq {k : IntKind} {p q c : Int} (hp : 0 ≤ p) (h : k.wrap (p / q) = c) : k.wrap (p.tdiv q) = c := by rw [Int.tdiv_eq_ediv_of_nonneg hp]; exact h
theorem si {k : IntKind} {a b : Int} (h : a = b) : some (Value.int k a) = some (Value.int k b) := by rw [h]
/-- numbers as cells -/
def vi (k : IntKind) (zs : List Int) : List Value := zs.map (Value.int k)
theorem vi_get {k : IntKind} {zs : List Int} {i : Nat} (h : i < zs.length) : (vi k zs)[i]? = some (.int k (nth zs i)) := by
  unfold vi; rw [List.getElem?_map, nth_get? h]; rfl
theorem vi_len {k : IntKind} {zs : List Int} : (vi k zs).length = zs.length := by simp [vi]
theorem vi_push {k : IntKind} {a : List Int} {x : Int} : vi k a ++ [.int k x] = vi k (a ++ [x]) := by simp [vi]
theorem wrap8 (x : Int) : IntKind.u8.wrap x = x % 256 := by
  simp [IntKind.wrap, IntKind.bits, IntKind.signed]
theorem vi_app {k : IntKind} {a b : List Int} : vi k (a ++ b) = vi k a ++ vi k b := by simp [vi]
theorem vi_one {k : IntKind} {zs : List Int} : (vi k zs).all Value.oneCell' = true := by
  unfold vi; rw [List.all_eq_true]; intro v hv; obtain ⟨z, _, rfl⟩ := List.mem_map.1 hv; rfl
theorem vi_set {k : IntKind} {zs : List Int} {i : Nat} {v : Int} : putL (vi k zs) i [.int k v] = vi k (zs.set i v) := by
  unfold vi; simp only [putL, List.map_set]
theorem vi_take {k : IntKind} {zs : List Int} {i : Nat} : (vi k zs).take i = vi k (zs.take i) := by unfold vi; rw [List.map_take]
theorem vi_drop {k : IntKind} {zs : List Int} {i : Nat} : (vi k zs).drop i = vi k (zs.drop i) := by unfold vi; rw [List.map_drop]
theorem vi_zero {k : IntKind} {n : Nat} : (madeCells #[.int k 0] (n * 1)).toList = vi k (List.replicate n 0) := by
  rw [Nat.mul_one, made_one]; unfold vi; rw [List.map_replicate]
theorem Rd.of_ints {k : IntKind} {w : World} {A : Option Addr} {n : Nat} {zs : List Int} (h : Ints k w A n zs) : Rd w A (vi k zs) := fun j u hu => by
  have hj : j < n := by
    rw [← h.len, ← vi_len (k := k)]
    exact (List.getElem?_eq_some_iff.1 hu).1
  obtain ⟨b, off, e, hb, hc⟩ := h.at_ hj
  refine ⟨b, off, e, hb, ?_⟩
  rw [vi_get (by rw [h.len]; exact hj)] at hu
  cases hu; exact hc
/-- a list of bytes as a string -/
def bs (zs : List Int) : ByteArray := ⟨(zs.map fun z => UInt8.ofNat z.toNat).toArray⟩
def Byt (zs : List Int) : Prop := ∀ z ∈ zs, 0 ≤ z ∧ z < 256
theorem bs_inj {a b : List Int} (ha : Byt a) (hb : Byt b) (h : a.map (fun z => UInt8.ofNat z.toNat) = b.map (fun z => UInt8.ofNat z.toNat)) : a = b := by
  induction a generalizing b with
  | nil => cases b with | nil => rfl | cons y b => simp at h
  | cons x a ih =>
    cases b with
    | nil => simp at h
    | cons y b =>
      simp only [List.map_cons, List.cons.injEq] at h
      have h1 := ha x List.mem_cons_self
      have h2 := hb y List.mem_cons_self
      have h3 := congrArg UInt8.toNat h.1
      simp only [UInt8.toNat_ofNat'] at h3
      have : x = y := by omega
      rw [this, ih (fun z hz => ha z (List.mem_cons_of_mem _ hz)) (fun z hz => hb z (List.mem_cons_of_mem _ hz)) h.2]
theorem fold_bs : ∀ (ns : List Int) (acc : List UInt8), ns.foldl (fun r n => r.push (UInt8.ofNat n.toNat)) (⟨acc.toArray⟩ : ByteArray) = ⟨(acc ++ ns.map fun z => UInt8.ofNat z.toNat).toArray⟩
  | [], acc => by simp
  | z :: ns, acc => by
    rw [List.foldl_cons]
    have : (⟨acc.toArray⟩ : ByteArray).push (UInt8.ofNat z.toNat) = ⟨(acc ++ [UInt8.ofNat z.toNat]).toArray⟩ := by simp [ByteArray.push]
    rw [this, fold_bs ns]
    simp
section
variable {P : Program} {n : Nat} {L : Fr} {o : Oper} {w : World}
theorem y_str {s d e : TypeId} {x : Operand} {A : Option Addr} {len cap : Nat} {zs : List Int} (ho : o.op = .convert s d x) (hs : P.underlying s = some (.slice e)) (he : P.underlying e = some (.int .u8)) (hd : P.underlying d = some .string) (hx : ev L x = some (.slice A len cap)) (hr : Rd w A (vi .u8 zs)) (hl : zs.length = len) : Yd P n L o (.string (bs zs)) w := fun a ha => by
  subst hl
  have hrun : (Conv.bytesToString (.slice A zs.length cap)).run P w = .ok (.string (bs zs)) w := by
    cases A with
    | none =>
      have : zs = [] := by
        cases zs with
        | nil => rfl
        | cons z zs => obtain ⟨_, _, e, _⟩ := hr 0 _ rfl; cases e
      subst this
      simp [Conv.bytesToString, bs]; rfl
    | some ad =>
      have hl : (loadCells ad (vi .u8 zs).length).run P w = .ok (vi .u8 zs).toArray w := run_loadCells_list (P := P) w ad (vi .u8 zs) (fun j v hv => by
        obtain ⟨b, off, e1, _, hc⟩ := hr j v hv
        cases e1
        rw [add_at]; exact hc)
      rw [vi_len] at hl
      have h2 := run_bytesToString (P := P) w ad zs.length cap zs hl
      have h3 := fold_bs zs []
      rw [List.nil_append] at h3
      rw [h2]
      exact congrArg (fun s => Result.ok (Value.string s) w) h3
  unfold execOp
  simp only [ho, ha.ev hx, convert, Sem.run_bind, run_underlying hs w, run_underlying hd w, run_underlying he w, Result.andThen_ok, hrun, Sem.run_pure]
theorem y_eq2 {op : BinOp} {t t' : TypeId} {x y : Operand} {p q v : Value} (ho : o.op = .binOp op t x y t') (hx : ev L x = some p) (hy : ev L y = some q) (hg : (eqGuard op t x y p q).run P w = .ok () w) (h : (binOp op t p q).run P w = .ok v w) : Yd P n L o v w := fun ac hac => by
  unfold execOp
  simp only [ho, hac.ev hx, hac.ev hy, Sem.run_bind, hg, h, Result.andThen_ok, Sem.run_pure]
theorem y_eqlnil {t t' e : TypeId} {x y : Operand} {A : Option Addr} {len cap : Nat} (ho : o.op = .binOp .eql t x y t') (ht : P.underlying t = some (.slice e)) (hx : ev L x = some (.slice A len cap)) (hy : ev L y = some (.slice none 0 0)) : Yd P n L o (.bool A.isNone) w :=
  y_eq2 ho hx hy rfl (Lib.run_eql_slice_nil w t e A len cap 0 0 ht)
theorem pointee_of {t e : TypeId} (h : P.underlying t = some (.pointer e)) : P.underlying t = some (.pointer (P.pointee t)) := by
  unfold Program.pointee; rw [h]
theorem y_peqlnil {t t' e : TypeId} {x y : Operand} {A : Option Addr} (ho : o.op = .binOp .eql t x y t') (ht : P.underlying t = some (.pointer e)) (hx : ev L x = some (.pointer A)) (hy : ev L y = some (.pointer none)) : Yd P n L o (.bool A.isNone) w :=
  y_eq2 ho hx hy rfl (run_eql_pointer_nil w t A (pointee_of ht))
/-! structs of numbers -/
def numsB (P : Program) : List Field → Nat → Bool
  | [], _ => true
  | f :: fs, j => !(f.name == "_") && (match P.underlying f.type with | some (.int _) => true | _ => false) && f.offset == j && numsB P fs (j + 1)
def seqB (P : Program) (t : TypeId) (k : Nat) : Bool := (match P.underlying t with | some (.struct fs) => numsB P fs.toList 0 && fs.size == k | _ => false) && !P.stoodInHeld t && !P.eqGuardType P.depth t
theorem str_dec {a b : List Int} (ha : Byt a) (hb : Byt b) : ((bs a).toList == (bs b).toList) = decide (a = b) := by
  unfold bs
  rw [ByteArray.toList_mk, ByteArray.toList_mk]
  by_cases h : a = b
  · subst h; simp
  · have h1 : ¬ a.map (fun z => UInt8.ofNat z.toNat) = b.map (fun z => UInt8.ofNat z.toNat) := fun e => h (bs_inj ha hb e)
    rw [decide_eq_false h]
    exact beq_false_of_ne h1
theorem y_streq {t t' : TypeId} {x y : Operand} {a b : List Int} (ho : o.op = .binOp .eql t x y t') (hx : ev L x = some (.string (bs a))) (hy : ev L y = some (.string (bs b))) (ha : Byt a) (hb : Byt b) : Yd P n L o (.bool (decide (a = b))) w := fun ac hac => by
  unfold execOp
  simp only [ho, hac.ev hx, hac.ev hy]
  simp [eqGuard, binOp, Op.stringOp, str_dec ha hb]
theorem y_strne {t t' : TypeId} {x y : Operand} {a b : List Int} (ho : o.op = .binOp .neq t x y t') (hx : ev L x = some (.string (bs a))) (hy : ev L y = some (.string (bs b))) (ha : Byt a) (hb : Byt b) : Yd P n L o (.bool (decide (¬ a = b))) w := fun ac hac => by
  unfold execOp
  simp only [ho, hac.ev hx, hac.ev hy]
  simp [eqGuard, binOp, Op.stringOp, str_dec ha hb]
end
theorem subA_zero {A : Option Addr} {c s : Nat} : subA A c 0 s = A := by
  unfold subA
  split
  · rfl
  · cases A <;> simp [Addr.add]
theorem HS.cap {w0 w : World} {l m : List Ob} {i : Nat} {A : Option Addr} {n cap cap' : Nat} {xs : List Value} {e : TypeId} {size : Nat} (h : HS w0 w l) (hi : l[i]? = some (.row A n cap xs e size)) (h1 : n ≤ cap') (h2 : cap' ≤ cap) (hm : l.set i (.row A n cap' xs e size) = m) : HS w0 w m := by
  refine h.clip hi h1 h2 (Nat.le_refl _) ?_
  rw [List.take_of_length_le (by rw [(h.len hi).1]; exact Nat.le_refl _)]; exact hm
end Go.Proofs.YtbnjbgcadkdljaaGreatDoor

namespace Go.Proofs.YtbnjbgcadkdljaaGreatDoor
open Go Go.RowKit

section
variable {P : Program} {n : Nat} {L : Fr} {o : Oper} {w : World}
theorem y_mkf {fn : Fn} {first caps : List Operand} {fs cs : List Value} (ho : o.op = .makeFunc fn first.toArray caps.toArray) (hf : evl L first fs) (hc : evl L caps cs) : Yd P n L o (.func fn fs.toArray cs.toArray) w := fun a ha => by
  unfold execOp
  simp only [ho, Instr.makeFunc, List.map_toArray, evl_map ha hf, evl_map ha hc, Sem.run_bind, Sem.run_pure, Result.andThen_ok]
theorem run_callv {f : FuncId} {x : Operand} {xs : List Operand} {ts : Array TypeId} {vs fs cs : List Value} {a : Act} (ha : Rep n L a) (ho : o.op = .call { callee := .value x, args := xs.toArray, argTypes := ts }) (hf : callB P f = true) (hx : ev L x = some (.func (.func f) fs.toArray cs.toArray)) (hv : evl L xs vs) :
    (execOp a.eval o).run P w = .ok (.enter f (fs ++ vs ++ cs).toArray) w := by
  unfold callB at hf
  split at hf
  · rename_i fn hfn
    simp only [Bool.and_eq_true, Bool.not_eq_true', beq_eq_false_iff_ne, ne_eq] at hf
    obtain ⟨h1, h2⟩ := hf
    have h3 : ¬ fn.body = none := by cases hb : fn.body <;> simp_all
    unfold execOp
    simp [ho, resolve, evl_map ha hv, ha.ev hx, Deferred.ofValue, invoke, callFunc, hfn, h1, h3]
  · cases hf
theorem op_callv {f : FuncId} {x : Operand} {xs : List Operand} {ts : Array TypeId} {vs fs cs : List Value} {R : Value → World → Prop} (hc : Ret P f (fs ++ vs ++ cs) w R) (ho : o.op = .call { callee := .value x, args := xs.toArray, argTypes := ts }) (hf : callB P f = true) (hx : ev L x = some (.func (.func f) fs.toArray cs.toArray)) (hv : evl L xs vs) : OpS P n L o w R := fun a ha => by
  unfold Oper.wp
  rw [run_callv ha ho hf hx hv]
  refine Calls.mono hc fun e w' ⟨v, he, hR⟩ => ?_
  subst he
  exact ⟨v, rfl, hR⟩
/-- a slice of bytes as a slice of bytes: its block is only read from now on -/
theorem op_cvsl {s e e' : TypeId} {x : Operand} {b i len cap size : Nat} {xs : List Value} {w0 : World} {l m : List Ob} (H : HS w0 w l) (ho : o.op = .convert s s x) (hs : P.underlying s = some (.slice e)) (he : P.underlying e = some (.int .u8)) (hx : ev L x = some (.slice (some ⟨b, 0, none⟩) len cap))
    (hi : l[i]? = some (.row (some ⟨b, 0, none⟩) len cap xs e' size)) (hc : Nat.blt 0 cap = true) (hm : l.set i (.ro b xs) = m) : OpS P n L o w (fun v w' => v = .slice (some ⟨b, 0, none⟩) len cap ∧ HS w0 w' m) := op_run fun a ha => by
  have hc' : 0 < cap := by simpa [Nat.blt_eq] using hc
  have hO : Own _ _ _ _ _ _ _ _ := H.at_ hi
  obtain ⟨a1, a2, a3, a4 | ⟨g, cur, hA, hB, hh, hsz, ht⟩⟩ := hO
  · omega
  · cases hA
    have hsh : w.shape? b = some (e', cur.size) := by unfold World.shape?; rw [hh]
    have hg : w.grownBy (w.freeze ⟨b, cur.size, none⟩ 1) (some b) := by
      refine ⟨by simp [World.freeze], by simp [World.freeze], by simp [World.freeze], by simp [World.freeze], fun k _ hk => ?_⟩
      simp only [World.freeze, Nat.one_ne_zero, if_false, Array.getElem?_modify]
      rw [if_neg (fun e => hk (by rw [e]))]
    have hb' : ∃ fr, (w.freeze ⟨b, cur.size, none⟩ 1).heap[b]? = some (.cells cur e' fr) := by
      simp only [World.freeze, Nat.one_ne_zero, if_false, Array.getElem?_modify, if_true, hh, Option.map_some]
      exact ⟨_, rfl⟩
    obtain ⟨fr, hfr⟩ := hb'
    refine ⟨_, w.freeze ⟨b, cur.size, none⟩ 1, ?_, rfl, H.upd (o' := .ro b xs) hi ?_ (show Ro _ _ _ _ from ⟨hB, cur, e', fr, hfr, by rw [a1]; exact ht⟩) ?_ hm⟩
    · unfold execOp
      simp only [ho, ha.ev hx, convert, Sem.run_bind, run_underlying hs w, run_underlying he w, Result.andThen_ok]
      simp [markStringish, run_underlying he w, hsh]
    · simpa [Ob.block, Nat.ne_of_gt hc'] using hg
    · intro k hk
      cases hk
      exact .inl (by simp [Ob.has, Ob.block, Nat.ne_of_gt hc'])
/-! interface values -/
def concB (P : Program) (t : TypeId) : Bool := match P.underlying t with | some (.interface _) => false | some _ => true | none => false
theorem concB_d {t : TypeId} (h : concB P t = true) : ∃ d, P.underlying t = some d ∧ ∀ ms, d ≠ .interface ms := by
  unfold concB at h
  cases hu : P.underlying t with
  | none => rw [hu] at h; cases h
  | some d =>
    rw [hu] at h
    refine ⟨d, rfl, fun ms e => ?_⟩
    subst e; cases h
theorem y_iface {t : TypeId} {x : Operand} {v : Value} (ho : o.op = .makeInterface t x) (ht : concB P t = true) (hx : ev L x = some v) : Yd P n L o (.iface t v) w := fun a ha => by
  obtain ⟨d, hu, hd⟩ := concB_d ht
  unfold execOp
  simp only [ho, ha.ev hx, Instr.makeInterface, Sem.run_bind, run_underlying hu w, Result.andThen_ok]
  cases d <;> first | exact absurd rfl (hd _) | simp
theorem y_tayes {xt t : TypeId} {x : Operand} {v : Value} (ho : o.op = .typeAssert x xt t true) (ht : concB P t = true) (hx : ev L x = some (.iface t v)) : Yd P n L o (.tuple #[v, .bool true]) w := fun a ha => by
  obtain ⟨d, hu, hd⟩ := concB_d ht
  unfold execOp
  simp only [ho, ha.ev hx, Instr.typeAssert, Sem.run_bind, run_underlying hu w, Result.andThen_ok]
  cases d <;> first | exact absurd rfl (hd _) | simp
theorem y_tano {xt t u : TypeId} {x : Operand} {v z : Value} (ho : o.op = .typeAssert x xt t true) (ht : concB P t = true) (hne : Nat.beq u t = false) (hz : (P.info? t).bind (·.zero) = some z) (hx : ev L x = some (.iface u v)) : Yd P n L o (.tuple #[z, .bool false]) w := fun a ha => by
  obtain ⟨d, hu, hd⟩ := concB_d ht
  have hne' : ¬ u = t := fun e => by subst e; rw [Nat.beq_refl] at hne; cases hne
  have hzv : (zeroValue t).run P w = .ok z w := by
    cases hi : P.info? t with
    | none => rw [hi] at hz; cases hz
    | some inf =>
      rw [hi] at hz
      have : inf.zero = some z := by simpa using hz
      simp [zeroValue, typeInfo, hi, this]
  unfold execOp
  simp only [ho, ha.ev hx, Instr.typeAssert, Sem.run_bind, run_underlying hu w, Result.andThen_ok]
  cases d <;> first | exact absurd rfl (hd _) | simp [hne', hzv]
theorem y_tav {xt t : TypeId} {x : Operand} {v : Value} (ho : o.op = .typeAssert x xt t false) (ht : concB P t = true) (hx : ev L x = some (.iface t v)) : Yd P n L o v w := fun a ha => by
  obtain ⟨d, hu, hd⟩ := concB_d ht
  unfold execOp
  simp only [ho, ha.ev hx, Instr.typeAssert, Sem.run_bind, run_underlying hu w, Result.andThen_ok]
  cases d <;> first | exact absurd rfl (hd _) | simp
/-- a method with a value receiver, called through an interface value -/
def methB (P : Program) (t : TypeId) (name : String) (f : FuncId) : Bool := match P.info? t with
  | some i => (match i.methods.find? (·.name == name) with | some m => m.path.isEmpty && (match m.func with | some (g, p) => Nat.beq g f && !p | none => false) | none => false)
  | none => false
def notPtrB (P : Program) (t : TypeId) : Bool := match P.underlying t with | some (.pointer _) => false | some _ => true | none => false
theorem run_method {t : TypeId} {v : Value} {name : String} {f : FuncId} (hm : methB P t name f = true) (hp : notPtrB P t = true) (k : Nat) : (method (k + 1) t v name).run P w = .ok (f, v) w := by
  unfold methB at hm
  split at hm
  · rename_i i hi
    split at hm
    · rename_i m hf
      simp only [Bool.and_eq_true] at hm
      obtain ⟨h1, h2⟩ := hm
      split at h2
      · rename_i g p hg
        simp only [Bool.and_eq_true, Bool.not_eq_true'] at h2
        have hgf : g = f := Nat.eq_of_beq_eq_true h2.1
        have hpf := h2.2
        subst hgf; subst hpf
        have hpath : m.path.toList = [] := by simpa using h1
        unfold notPtrB at hp
        cases hu : P.underlying t with
        | none => rw [hu] at hp; cases hp
        | some d =>
          rw [hu] at hp
          unfold method
          simp only [Sem.run_bind, typeInfo, run_program, Result.andThen_ok, hi, Sem.run_pure, hf, hpath, follow, hg, receiverAt, run_underlying hu w]
          cases d <;> first | rfl | cases hp
      · cases h2
    · cases hm
  · cases hm
end
end Go.Proofs.YtbnjbgcadkdljaaGreatDoor

namespace Go.Proofs.YtbnjbgcadkdljaaGreatDoor
open Go Go.RowKit

section
variable {P : Program} {n : Nat} {L : Fr} {o : Oper} {w : World}
/-- the value in other words -/
theorem yv {u v : Value} (he : u = v) (h : Yd P n L o u w) : Yd P n L o v w := he ▸ h
theorem pt_sub {A : Option Addr} {cap lo size k : Nat} (h : lo < cap) : pt (subA A cap lo size) k = pt A (lo * size + k) := by
  unfold pt subA
  rw [if_neg (by omega)]
  cases A with
  | none => rfl
  | some a =>
    simp only [Option.map_some]
    unfold Addr.add
    split <;> split <;> simp_all [Nat.add_assoc]
theorem y_nilcki {x : Operand} {t : TypeId} {v : Value} (ho : o.op = .nilCheck x) (hx : ev L x = some (.iface t v)) : Yd P n L o (.iface t v) w := fun a ha => by
  unfold execOp; simp only [ho, ha.ev hx, Sem.run_pure]
theorem qy_inv {R : World → Prop} {f : FuncId} {x : Operand} {xs : List Operand} {ts : Array TypeId} {vs : List Value} {t : TypeId} {v u : Value} {name : String} (hc : ∀ Y, R Y → Ret P f (v :: vs) Y (fun u' w' => u' = u ∧ Below Y.heap.size Y w')) (ho : o.op = .call { callee := .invoke x name, args := xs.toArray, argTypes := ts }) (hm : methB P t name f = true) (hp : notPtrB P t = true) (hf : callB P f = true) (hx : ev L x = some (.iface t v)) (hv : evl L xs vs) : QY P n L R o u := fun a ha Y hY => by
  have : (execOp a.eval o).run P Y = .ok (.enter f (v :: vs).toArray) Y := by
    unfold callB at hf
    split at hf
    · rename_i fn hfn
      simp only [Bool.and_eq_true, Bool.not_eq_true', beq_eq_false_iff_ne, ne_eq] at hf
      obtain ⟨h1, h2⟩ := hf
      have h3 : ¬ fn.body = none := by cases hb : fn.body <;> simp_all
      obtain ⟨k, hk⟩ : ∃ k, P.types.size + Made.depth = k + 1 := ⟨P.types.size + Made.depth - 1, by
        have h : 0 < Made.depth := by decide
        omega⟩
      unfold execOp
      simp [ho, resolve, evl_map ha hv, ha.ev hx, invoke, callMethod, hk, run_method hm hp k, callFunc, hfn, h1, h3]
    · cases hf
  unfold Oper.quietAt
  rw [this]
  refine ⟨rfl, Calls.mono (hc Y hY) fun e w' ⟨u', he, hu, hb⟩ => ?_⟩
  subst hu
  exact ⟨he, hb⟩
/-- copy(A[lo:], src) into a row of the call's own, cells of one -/
theorem op_copy {dT sT e : TypeId} {x y : Operand} {i k cap lo dLen dCap sLen sCap : Nat} {A A' : Option Addr} {xs cs : List Value} {w0 : World} {l m : List Ob} (H : HS w0 w l) (ho : o.op = .call { callee := .builtin .copy, args := #[x, y], argTypes := #[dT, sT] })
    (hx : ev L x = some (.slice (subA A cap lo 1) dLen dCap)) (hy : ev L y = some (.slice A' sLen sCap)) (hi : l[i]? = some (.row A k cap xs e 1)) (ht : P.underlying dT = some (.slice e)) (hz : (P.info? e).map (·.size) = some 1) (hr : Rd w A' cs)
    (hn : cs.length = Nat.min sLen dLen) (hp : 0 < cs.length) (hlo : lo < cap) (hl : lo + cs.length ≤ xs.length) (h1 : cs.all Value.oneCell' = true) (hm : l.set i (.row A k cap (putL xs lo cs) e 1) = m) :
    OpS P n L o w (fun u w' => u = .int .i64 (cs.length : Int) ∧ HS w0 w' m) := op_run fun a ha => by
  have hO : Own _ _ _ _ _ _ _ _ := H.at_ hi
  obtain ⟨a1, a2, a3, a4 | ⟨g, cur, hA, hB, hh, hs, htk⟩⟩ := hO
  · have : k = 0 := by omega
    subst this
    have : xs.length = 0 := by simpa using a1
    omega
  · subst hA
    have hcur : cur.size = cur.toList.length := by simp
    have hle : xs.length ≤ cur.size := by rw [a1]; exact Nat.le_trans (Nat.mul_le_mul_right _ a2) hs
    have hBk : Blk w g cur.toList e := by unfold Blk; simpa using hh
    obtain ⟨u0, hu0⟩ : ∃ u, cs[0]? = some u := ⟨_, List.getElem?_eq_getElem hp⟩
    obtain ⟨b', off', e', _, _⟩ := hr 0 u0 hu0
    subst e'
    have hld := run_loadCells_list (P := P) w ⟨b', off', none⟩ cs (fun j v hj => by
      obtain ⟨b2, o2, e2, _, hc⟩ := hr j v hj
      cases e2
      rw [add_at]; exact hc)
    obtain ⟨w', hst, hb, hgr, _⟩ := store_cells (P := P) cs cur.toList lo 0 w hBk (by rw [← hcur]; omega) (List.all_eq_true.1 h1)
    have hc0 : ¬ cap = 0 := by omega
    refine ⟨_, w', ?_, rfl, H.upd (o' := .row (some ⟨g, 0, none⟩) k cap (putL xs lo cs) e 1) hi (by simpa [Ob.block, hc0] using hgr) (show Own _ _ _ _ _ _ _ _ from ⟨by rw [putL_len]; exact a1, a2, a3, .inr ⟨g, (putL cur.toList lo cs).toArray, rfl, hB, by simpa [Blk] using hb, by simpa [putL_len] using hs, ?_⟩⟩) (fun _ h => .inl (by simpa [Ob.has, Ob.block, hc0] using h)) hm⟩
    · have hsub : subA (some ⟨g, 0, none⟩) cap lo 1 = some ⟨g, lo, none⟩ := by
        unfold subA
        rw [if_neg (by omega)]
        simp only [Option.map_some, Nat.mul_one, add_at, Nat.zero_add]
      rw [hsub] at hx
      cases hq : P.info? e with
      | none => rw [hq] at hz; cases hz
      | some inf =>
        have hs1 : inf.size = 1 := by simpa [hq] using hz
        unfold execOp
        simp [ho, resolve, invoke, builtin, ha.ev hx, ha.ev hy, Builtin.copy_, run_underlying ht, Builtin.lenOf, Builtin.firstCells, sizeOf, typeInfo, hq, hs1, ← hn, hld, hst, Result.andThen, goInt]
    · simp only
      rw [putL_take _ _ _ _ (by rw [← a1]; exact hl), htk]
/-- what an elder contract says -/
theorem ret_elder {f : FuncId} {args : List Value} {v : Value} {Q : World → Prop} (h : Calls P f args.toArray w fun r w' => r = .returned v ∧ Q w') : Ret P f args w (fun u w' => u = v ∧ Q w') :=
  Calls.mono h fun e w' ⟨he, hq⟩ => ⟨v, he, rfl, hq⟩
theorem HS.rdb {w0 : World} {l : List Ob} {i b : Nat} {cs : List Value} {T : TypeId} (h : HS w0 w l) (hi : l[i]? = some (.blk b cs T)) : Rd w (some ⟨b, 0, none⟩) cs := Blk.rd (h.at_ hi).2
theorem putL_vi {k : IntKind} : ∀ (zs cs : List Int) (i : Nat), i + cs.length ≤ zs.length → putL (vi k zs) i (vi k cs) = vi k (zs.take i ++ cs ++ zs.drop (i + cs.length))
  | zs, [], i, h => by simp [vi, putL]
  | zs, c :: cs, i, h => by
    simp only [List.length_cons] at h
    have := putL_vi (k := k) (zs.set i c) cs (i + 1) (by simp; omega)
    simp only [vi, List.map_cons, putL] at this ⊢
    rw [← List.map_set, this]
    congr 1
    have h1 : (zs.set i c).take (i + 1) = zs.take i ++ [c] := by
      apply List.ext_getElem?
      intro j
      rw [List.getElem?_take, List.getElem?_set, List.getElem?_append, List.length_take, List.getElem?_take]
      by_cases hj : j < i
      · simp [hj, show j < i + 1 by omega, show ¬ i = j by omega, show j < min i zs.length by omega]
      · by_cases hj' : j = i
        · subst hj'; simp [show ¬ j < min j zs.length by omega, show j - min j zs.length = 0 by omega, show j < zs.length by omega]
        · simp [show ¬ j < i + 1 by omega, show ¬ j < min i zs.length by omega]; omega
    have h2 : (zs.set i c).drop (i + 1 + cs.length) = zs.drop (i + (cs.length + 1)) := by
      rw [List.drop_set_of_lt (by omega)]; congr 1; omega
    rw [h1, h2, List.append_assoc, List.append_assoc, List.append_assoc]; simp [Nat.add_assoc, Nat.add_comm 1]
end
end Go.Proofs.YtbnjbgcadkdljaaGreatDoor

namespace Go.Proofs.YtbnjbgcadkdljaaGreatDoor
open Go Go.RowKit

inductive Tr where
  | leaf
  | step (k : Nat) (t : Tr)
  | alt (a b : Tr)
def Tr.dep : Tr → Nat
  | .leaf => 0
  | .step _ t => t.dep + 1
  | .alt a _ => a.dep
def Tr.keys : Tr → List Nat
  | .leaf => []
  | .step k _ => [k]
  | .alt a b => a.keys ++ b.keys
def Tr.sub (md : Region.Mode) (ops : Array Oper) : Tr → Array Bool → Bool
  | .leaf, seen => (Region.ready md ops seen).isEmpty
  | .step k t, seen => (Region.ready md ops seen).contains k && ((Region.ready md ops (seen.setIfInBounds k true)).all (fun i => t.keys.contains i) && t.sub md ops (seen.setIfInBounds k true))
  | .alt a b, seen => a.sub md ops seen && (b.sub md ops seen && Nat.beq a.dep b.dep)
def Tr.top (md : Region.Mode) (ops : Array Oper) (t : Tr) (seen : Array Bool) : Bool := (Region.ready md ops seen).all (fun i => t.keys.contains i) && t.sub md ops seen
def lexT (md : Region.Mode) (ops : Array Oper) (t : Tr) : List Nat → Array Bool → Bool
  | [], seen => t.top md ops seen
  | k :: hs, seen => (Region.ready md ops seen).contains k && Region.free md ops seen k && lexT md ops t hs (seen.setIfInBounds k true)
def twoT (ops : Array Oper) (hs : List Nat) (t : Tr) : Bool := Region.noSelect ops && decide (hs.length + t.dep = ops.size) && dstsB ops hs && lexT .any ops t hs (Array.replicate ops.size false)

section
variable {P : Program} {ops : Array Oper} {md : Region.Mode} {Q : Exit → Act → World → Prop} {R : World → Prop}
def wpTree (P : Program) (l : List Oper) (Q0 : Act → World → Prop) (R : World → Prop) : Tr → Act → World → Prop
  | .leaf, a, w => Q0 a w
  | .step k t, a, w => ∃ o, l[k]? = some o ∧ wpList P l.toArray (fun e a' w' => e = .normal ∧ R w' ∧ ∀ X, Below w'.heap.size w' X → wpTree P l Q0 R t a' X) [o] a w
  | .alt x y, a, w => wpTree P l Q0 R x a w ∧ wpTree P l Q0 R y a w
theorem tree_none {l : List Oper} {Q0 : Act → World → Prop} {seen : Array Bool} {a : Act} {w : World} : ∀ t : Tr, t.dep = 0 → t.sub md l.toArray seen = true → wpTree P l Q0 R t a w → Region.ready md l.toArray seen = [] ∧ Q0 a w
  | .leaf, _, h, k => ⟨by simpa [Tr.sub] using h, k⟩
  | .step _ _, h, _, _ => by simp [Tr.dep] at h
  | .alt x y, h, h2, k => by
    simp only [Tr.sub, Bool.and_eq_true] at h2
    exact tree_none x h h2.1 k.1
theorem tree_some {l : List Oper} {seen : Array Bool} : ∀ t : Tr, t.dep ≠ 0 → t.sub md l.toArray seen = true → Region.ready md l.toArray seen ≠ []
  | .leaf, h, _ => absurd rfl h
  | .step k t, _, h => by
    simp only [Tr.sub, Bool.and_eq_true] at h
    intro e
    rw [e] at h
    exact absurd h.1 (by simp)
  | .alt x y, h, h2 => by
    simp only [Tr.sub, Bool.and_eq_true] at h2
    exact tree_some x h h2.1
theorem tree_find {l : List Oper} {Q0 : Act → World → Prop} {seen : Array Bool} {a : Act} {w : World} {i : Nat} : ∀ t : Tr, i ∈ t.keys → t.sub md l.toArray seen = true → wpTree P l Q0 R t a w →
    ∃ t' : Tr, t'.dep + 1 = t.dep ∧ t'.top md l.toArray (seen.setIfInBounds i true) = true ∧ wpTree P l Q0 R (.step i t') a w
  | .leaf, h, _, _ => by cases h
  | .step k t, h, h2, k2 => by
    obtain rfl : i = k := by simpa [Tr.keys] using h
    simp only [Tr.sub, Bool.and_eq_true] at h2
    exact ⟨t, rfl, by simp only [Tr.top, Bool.and_eq_true]; exact h2.2, k2⟩
  | .alt x y, h, h2, k2 => by
    simp only [Tr.sub, Bool.and_eq_true] at h2
    rcases List.mem_append.1 h with h | h
    · exact tree_find x h h2.1 k2.1
    · obtain ⟨t', e, h3⟩ := tree_find y h h2.2.1 k2.2
      exact ⟨t', by rw [e]; exact (Nat.eq_of_beq_eq_true h2.2.2).symm, h3⟩
theorem wpAnyE_of_tree {l : List Oper} {Q0 : Act → World → Prop} : ∀ (f : Nat) (t : Tr) (seen : Array Bool) (a : Act) (w : World), t.dep = f → t.top md l.toArray seen = true →
    (∀ X, Ext w X → wpTree P l Q0 R t a X) → wpAnyE P md l.toArray (fun e a w => e = .normal ∧ Q0 a w) R f seen a w
  | 0, t, seen, a, w, hd, hB, h => fun X hX => by
    simp only [Tr.top, Bool.and_eq_true] at hB
    have := tree_none t hd hB.2 (h X hX)
    exact ⟨this.1, rfl, this.2⟩
  | f + 1, t, seen, a, w, hd, hB, h => by
    simp only [Tr.top, Bool.and_eq_true] at hB
    intro X hX
    refine ⟨fun h1 => absurd h1 (tree_some t (by omega) hB.2), fun i hi => ?_⟩
    have hk : i ∈ t.keys := by simpa using List.all_eq_true.1 hB.1 i hi
    obtain ⟨t', e, hT, o, hl, h1⟩ := tree_find t hk hB.2 (h X hX)
    have ho : l.toArray[i]? = some o := by simpa using hl
    unfold wpOp
    simp only [ho]
    by_cases hw : Region.wanted o (yielded l.toArray a.tmps) = true
    · simp only [hw, if_true]
      unfold wpList at h1
      rw [if_pos hw] at h1
      rcases h1 with h1 | ⟨_, a1, w1, hlet⟩
      · refine .inl (wp_calm (fun e a w hq => hq.1) (fun a' w' h2 => ?_) h1)
        unfold wpList at h2
        exact ⟨h2.2.1, wpAnyE_of_tree f t' _ a' w' (by omega) hT h2.2.2⟩
      · exact nomatch hlet.1
    · simp only [hw]
      unfold wpList at h1
      rw [if_neg hw] at h1
      unfold wpList at h1
      exact ⟨h1.2.1, wpAnyE_of_tree f t' _ _ _ (by omega) hT h1.2.2⟩
theorem wpAnyE_lexT {l : List Oper} {tt : Tr} {Q0 : Act → World → Prop} {aF : Act} (hs0 : Region.noSelect l.toArray = true) (hRx : ∀ X X', R X → Ext X X' → R X') (X1 : World) (hX1 : R X1) : ∀ (hs : List Nat) (seen : Array Bool) (a : Act) (w : World), R w →
    lexT md l.toArray tt hs seen = true → dstsB l.toArray hs = true → roomB l.toArray hs a.tmps.size = true →
    (∀ X, R X → wpQuiet P l.toArray (fun w' => ∃ x, w' = X.over x) (SameAct aF) (pick l hs) a) →
    (∀ X, Ext w X → wpTree P l Q0 R tt aF X) →
    wpAnyE P md l.toArray (fun e a w => e = .normal ∧ Q0 a w) R (hs.length + tt.dep) seen a w
  | [], seen, a, w, hw, hB, _, _, h, ht => by
    have e : a = aF := by have := h X1 hX1; unfold pick wpQuiet SameAct at this; exact this
    subst e
    rw [List.length_nil, Nat.zero_add]
    exact wpAnyE_of_tree _ tt seen a w rfl hB ht
  | k :: hs, seen, a, w, hw, hB, hD, hR, h, ht => by
    simp only [lexT, Bool.and_eq_true] at hB
    obtain ⟨⟨hr, hf⟩, hB'⟩ := hB
    have hr' : k ∈ Region.ready md l.toArray seen := by simpa using hr
    obtain ⟨_, o, ho, _⟩ := mem_ready.1 hr'
    have hl : l[k]? = some o := by simpa using ho
    simp only [dstsB, ho, Option.bind_some, Bool.and_eq_true] at hD
    simp only [roomB, List.all_cons, ho, Option.bind_some, Bool.and_eq_true] at hR
    obtain ⟨hD1, hD2⟩ := hD
    obtain ⟨hR1, hR2⟩ := hR
    cases hd : o.dst with
    | none => rw [hd] at hD1; cases hD1
    | some t =>
      rw [hd] at hD1 hR1
      simp only [decide_eq_true_eq] at hR1
      have hother : ∀ o' ∈ pick l hs, o'.dst ≠ some t := fun o' ho' => by
        obtain ⟨j, hj, e⟩ := mem_pick ho'
        have := List.all_eq_true.1 hD1 j hj
        simp only [List.getElem?_toArray, e, Option.bind_some, bne_iff_ne, ne_eq] at this
        exact this
      have hst : ∀ X, R X → ∃ v, YieldsIn P l.toArray (fun w' => ∃ x, w' = X.over x) o v a ∧ wpQuiet P l.toArray (fun w' => ∃ x, w' = X.over x) (SameAct aF) (pick l hs) (a.put o.dst v) ∧ aF.tmps[t]? = some v := fun X hX => by
        have h1 := h X hX
        simp only [pick, hl] at h1
        have h2 : qOp P l.toArray (fun w' => ∃ x, w' = X.over x) k (wpQuiet P l.toArray (fun w' => ∃ x, w' = X.over x) (SameAct aF) (pick l hs)) a := by
          unfold qOp; simp only [ho]; exact h1
        obtain ⟨v, hy, hK⟩ := yieldsIn_of_qOp ho h2
        refine ⟨v, hy, hK, ?_⟩
        rw [quiet_keeps _ _ hother hK, hd]
        unfold Act.put
        simp [hR1]
      obtain ⟨v, hy0, _, hv⟩ := hst X1 hX1
      have hall : ∀ X, R X → YieldsIn P l.toArray (fun w' => ∃ x, w' = X.over x) o v a ∧ wpQuiet P l.toArray (fun w' => ∃ x, w' = X.over x) (SameAct aF) (pick l hs) (a.put o.dst v) := fun X hX => by
        obtain ⟨v', hy', hK', hv'⟩ := hst X hX
        have : v' = v := by rw [hv] at hv'; exact (Option.some.inj hv').symm
        subst this
        exact ⟨hy', hK'⟩
      have hy : YieldsOver P l.toArray R o v a := by
        by_cases hwt : Region.wanted o (yielded l.toArray a.tmps) = true
        · refine .inl ⟨hwt, fun X hX => ?_⟩
          rcases (hall X hX).1 with ⟨_, h1⟩ | ⟨h1, _⟩
          · have h2 := h1 X (over_of (Below.refl _ _))
            unfold Oper.quietAt at *
            generalize (execOp a.eval o).run P X = r at *
            cases r with
            | ok n w' =>
              cases n <;> simp only [Oper.quietUpon] at h2 ⊢
              case value u => exact h2
              case skip => exact h2
              case enter f args => exact ⟨h2.1, h2.2.mono fun e w'' ⟨he, x, hx⟩ => ⟨he, hx ▸ over_below X x⟩⟩
            | halt x w' => simp only [Oper.quietUpon] at h2
          · rw [hwt] at h1; cases h1
        · rcases hy0 with ⟨h1, _⟩ | ⟨h1, h2⟩
          · exact absurd h1 hwt
          · exact .inr ⟨h1, h2⟩
      rw [show (k :: hs).length + tt.dep = (hs.length + tt.dep) + 1 by simp only [List.length_cons]; omega]
      exact wpAnyE_first ho (Region.noSelect_spec hs0) (fun c a w hq => nomatch hq.1) hRx (hs.length + tt.dep) seen a w hw (Region.free_spec ho hf) hr' hy
        (wpAnyE_lexT hs0 hRx X1 hX1 hs _ _ w hw hB' hD2 (by rw [put_size]; exact hR2) (fun X hX => (hall X hX).2) ht)
theorem wp_region_tree {id : Nat} {a : Act} {l : List Oper} {W : World} (hs : List Nat) (t : Tr) (aF : Act) (R : World → Prop) (hR0 : ∀ X, Below W.heap.size W X → R X) (hRx : ∀ X X', R X → Ext X X' → R X') (hm : P.follows .mixedOrders = true) (hB : twoT l.toArray hs t = true) (hR : roomB l.toArray hs a.tmps.size = true)
    (h1 : ∀ X, R X → wpQuiet P l.toArray (fun w' => ∃ x, w' = X.over x) (SameAct aF) (pick l hs) a)
    (h2 : ∀ X, Below W.heap.size W X → wpTree P l (fun a w => Q .normal a w) R t aF X) : (Code.region id l.toArray true).wp P Q a W := by
  simp only [twoT, Bool.and_eq_true, decide_eq_true_eq] at hB
  obtain ⟨⟨⟨hs0, hlen⟩, hD⟩, hL⟩ := hB
  refine wp_region_any hm ?_
  have h0 : R { W with drawn := W.drawn + 1 } := hR0 _ (Below.refl _ _).drew
  have h3 := wpAny_monoQ (Q := fun e a w => e = .normal ∧ Q .normal a w) (Q' := Q) (fun e a w h => by obtain ⟨rfl, h⟩ := h; exact h) (fun e a w h => h.1) _ _ _ _ (wpAny_of_E (R := R) _ _ _ _
    (wpAnyE_lexT hs0 hRx _ h0 hs _ a _ h0 hL hD hR h1 fun X hX => h2 X ((Below.refl _ W).drew.trans hX)))
  rw [hlen] at h3
  exact h3
theorem tree_mono {l : List Oper} {Q0 Q1 : Act → World → Prop} (hQ : ∀ a w, Q0 a w → Q1 a w) : ∀ (t : Tr) (a : Act) (w : World), wpTree P l Q0 R t a w → wpTree P l Q1 R t a w
  | .leaf, a, w, h => hQ a w h
  | .alt x y, a, w, h => ⟨tree_mono hQ x a w h.1, tree_mono hQ y a w h.2⟩
  | .step k t, a, w, ⟨o, ho, h⟩ => by
    refine ⟨o, ho, ?_⟩
    unfold wpList at h ⊢
    by_cases hw : Region.wanted o (yielded l.toArray a.tmps) = true
    · rw [if_pos hw] at h ⊢
      rcases h with h | ⟨_, a1, w1, hlet⟩
      · refine .inl (wp_calm (fun e a w hq => hq.1) (fun a' w' h2 => ?_) h)
        unfold wpList at h2 ⊢
        exact ⟨h2.1, h2.2.1, fun X hX => tree_mono hQ t a' X (h2.2.2 X hX)⟩
      · exact nomatch hlet.1
    · rw [if_neg hw] at h ⊢
      unfold wpList at h ⊢
      exact ⟨h.1, h.2.1, fun X hX => tree_mono hQ t _ X (h.2.2 X hX)⟩
/-! T as a tree -/
variable {n : Nat} {w : World}
def TvT (P : Program) (n : Nat) (l : List Oper) (Q0 : Act → World → Prop) (R : World → Prop) (t : Tr) (L : Fr) (w : World) : Prop := ∀ a, Rep n L a → wpTree P l Q0 R t a w
theorem tt_alt {l : List Oper} {Q0 : Act → World → Prop} {x y : Tr} {L : Fr} (h : TvT P n l Q0 R x L w) (k : TvT P n l Q0 R y L w) : TvT P n l Q0 R (.alt x y) L w := fun a ha => ⟨h a ha, k a ha⟩
theorem tt_op {l : List Oper} {Q0 : Act → World → Prop} {t : Tr} {i : Nat} {o : Oper} {L : Fr} {C : Value → World → Prop} (hi : l[i]? = some o) (h : OpS P n L o w C) (hg : o.guard = none) (hd : dok n o.dst = true) (k : ∀ v w', C v w' → R w' ∧ ∀ X, Below w'.heap.size w' X → TvT P n l Q0 R t (up L o.dst v) X) : TvT P n l Q0 R (.step i t) L w := fun a ha => by
  refine ⟨o, hi, wpList_plain hg fun K' hK' => ?_⟩
  refine wp_dead (fun a' w' ⟨v, e, hk⟩ => hK' _ _ ?_) (h a ha)
  subst e
  obtain ⟨h1, h2⟩ := k v w' hk
  exact wpList_nil ⟨rfl, h1, fun X hX => h2 X hX _ (ha.put hd v)⟩
def LeafQ (n : Nat) (ds : List Nat) (L0 : Fr) (K : Fr → World → Prop) : Act → World → Prop := fun a w => ∃ M, Rep n (M ++ drp ds L0) a ∧ K M w
theorem tt_leaf {l : List Oper} {ds : List Nat} {L0 L M : Fr} {K : Fr → World → Prop} (hK : K M w) (hM : sub L M) (hk : Kp ds L L0) : TvT P n l (LeafQ n ds L0 K) R .leaf L w := fun a ha =>
  ⟨M, ⟨ha.size, ha.defers, fun t v h => by
    rcases lk_app_or h with h1 | h1
    · exact ha.at_ t v (sub_lk hM t v h1)
    · exact ha.at_ t v (hk t v (drp_lk h1).1 (drp_lk h1).2)⟩, hK⟩
/-- behind H -/
def TreeK (P : Program) (n : Nat) (Q : Exit → Act → World → Prop) (w0 : World) (ob lR : List Ob) (l : List Oper) (t : Tr) (Lf : Fr) : Prop := ∃ (L0 : Fr) (ds : List Nat) (K : Fr → World → Prop), le L0 Lf ∧ (∀ X, HS w0 X ob → TvT P n l (LeafQ n ds L0 K) (fun X => HS w0 X lR) t L0 X) ∧ ∀ M X, K M X → Fin n Q .normal (M ++ drp ds L0) X
theorem hkt_nil {w0 : World} {ob lR : List Ob} {l : List Oper} {ops : Array Oper} {t : Tr} {L : Fr} (ds : List Nat) (K : Fr → World → Prop) (h : ∀ X, HS w0 X ob → TvT P n l (LeafQ n ds L K) (fun X => HS w0 X lR) t L X) (h2 : ∀ M X, K M X → Fin n Q .normal (M ++ drp ds L) X) :
    Hk P n ops (fun X => HS w0 X lR) (TreeK P n Q w0 ob lR l t) [] L := ⟨L, ds, K, fun _ _ k => k, h, h2⟩
theorem cw_drawT {id : Nat} {l : List Oper} {w0 : World} {ob : List Ob} {L : Fr} (H : HS w0 w ob) (hs : List Nat) (t : Tr) {lR : List Ob} (hp : ∀ X, HS w0 X ob → HS w0 X lR) (hm : P.follows .mixedOrders = true) (hB : twoT l.toArray hs t = true) (hR : roomB l.toArray hs n = true)
    (h : Hk P n l.toArray (fun X => HS w0 X lR) (TreeK P n Q w0 ob lR l t) (pick l hs) L) : Cw P n Q (.region id l.toArray true) L w := fun a ha => by
  obtain ⟨aF, Lf, hF, ⟨L0, ds, K, hle, hT, hK⟩, hq⟩ := hk_quiet (fun X X' h k => h.ext k) _ _ h a ha
  refine wp_region_tree hs t aF (fun X => HS w0 X lR) (fun X hX => hp X (H.ext hX)) (fun X X' h k => h.ext k) hm hB (by rw [ha.size]; exact hR) hq (fun X hX => ?_)
  exact tree_mono (fun a w ⟨M, hr, hk⟩ => hK M w hk a hr) t aF X (hT X (H.ext hX) aF (le_rep hle hF))
end
end Go.Proofs.YtbnjbgcadkdljaaGreatDoor

namespace Go.Proofs.YtbnjbgcadkdljaaGreatDoor
open Go Go.RowKit

theorem HS.perm {w0 w : World} {l m : List Ob} (h : HS w0 w l) (p : l.Perm m) : HS w0 w m :=
  ⟨h.base, fun o ho => h.own o (p.mem_iff.2 ho), (p.pairwise_iff (fun k => apart_symm k)).1 h.apart⟩
/-- make([]T, 0, c) -/
theorem op_mk0 {P : Program} {n : Nat} {L : Fr} {o : Oper} {w : World} {t e : TypeId} {x y : Operand} {k k' : IntKind} {m size bytes : Nat} {q q' : Int} {zs : List Value} {w0 : World} {l : List Ob} (H : HS w0 w l) (ho : o.op = .makeSlice t x y) (hx : ev L x = some (.int k q)) (hy : ev L y = some (.int k' q')) (hq : q = 0) (hq' : q' = (m : Int))
    (ht : P.underlying t = some (.slice e)) (hz : (P.info? e).map (fun i => (i.zero.map (·.cells.toList), i.size, i.bytes)) = some (some zs, size, bytes)) (hb : bytes * m ≤ 281474976710656) (hm : m ≤ maxLen) :
    OpS P n L o w (fun u w' => ∃ b, u = .slice (some ⟨b, 0, none⟩) 0 m ∧ HS w0 w' (.row (some ⟨b, 0, none⟩) 0 m [] e size :: l)) := op_run fun a ha => by
  subst hq; subst hq'
  cases hi : P.info? e with
  | none => rw [hi] at hz; cases hz
  | some inf =>
    rw [hi] at hz
    simp only [Option.map_some, Option.some.injEq, Prod.mk.injEq] at hz
    obtain ⟨h1, h2, h3⟩ := hz
    cases hzz : inf.zero with
    | none => rw [hzz] at h1; cases h1
    | some z =>
      obtain ⟨w', hr, hown, hg⟩ := run_make_own (P := P) w w0.heap.size t e inf z size ht hi hzz h2 k k' m (by rw [h3]; exact hb) hm H.base.size
      refine ⟨_, w', ?_, w.heap.size, rfl, ?_⟩
      · unfold execOp
        simp only [ho, ha.ev hx, ha.ev hy, Sem.run_bind, hr, Result.andThen_ok, Sem.run_pure]
      · have h4 : HS w0 w' l := H.ext ⟨hg.os, hg.tape, hg.output, hg.size, fun k hk => hg.block k hk (by intro h; cases h)⟩
        refine h4.cons (own_of hown) fun o' ho' k hk hk' => ?_
        have : k = w.heap.size := by
          simp only [Ob.has, Ob.block] at hk
          split at hk
          · cases hk
          · cases hk; rfl
        subst this
        exact absurd (Ob.lt (H.own o' ho') _ hk').2 (Nat.lt_irrefl _)
section
variable {α : Type} {f : α → List Ob} {w0 w : World}
def obs (f : α → List Ob) (xs : List α) : List Ob := xs.flatMap f
theorem obs_take {xs : List α} {i : Nat} {x : α} (hi : xs[i]? = some x) : (obs f xs).Perm (f x ++ obs f (xs.eraseIdx i)) := by
  obtain ⟨hl, rfl⟩ := List.getElem?_eq_some_iff.1 hi
  unfold obs
  have h1 : xs.Perm (xs[i] :: xs.eraseIdx i) := by
    have h2 : xs.eraseIdx i = xs.take i ++ xs.drop (i + 1) := List.eraseIdx_eq_take_drop_succ ..
    rw [h2]
    have h3 : xs = xs.take i ++ xs[i] :: xs.drop (i + 1) := by
      rw [List.getElem_cons_drop, List.take_append_drop]
    exact (List.Perm.of_eq h3).trans List.perm_middle
  have := h1.flatMap_right f
  simpa using this
theorem obs_put {xs : List α} {i : Nat} {x : α} (hi : i < xs.length) : (f x ++ obs f (xs.eraseIdx i)).Perm (obs f (xs.set i x)) := by
  have h1 : (xs.set i x)[i]? = some x := by simp [hi]
  have h2 := obs_take (f := f) h1
  have h3 : (xs.set i x).eraseIdx i = xs.eraseIdx i := by
    rw [List.eraseIdx_eq_take_drop_succ, List.eraseIdx_eq_take_drop_succ, List.drop_set_of_lt (by omega), List.take_set, List.set_eq_of_length_le (by rw [List.length_take]; omega)]
  rw [h3] at h2
  exact h2.symm
/-- the i-th one comes to the front -/
theorem HS.takeI {l : List Ob} {xs : List α} {i : Nat} {x : α} (h : HS w0 w (obs f xs ++ l)) (hi : xs[i]? = some x) : HS w0 w (f x ++ (obs f (xs.eraseIdx i) ++ l)) := by
  refine h.perm ?_
  rw [← List.append_assoc]
  exact (obs_take hi).append_right l
/-- .. and goes back, changed -/
theorem HS.putI {l : List Ob} {xs : List α} {i : Nat} {x : α} (h : HS w0 w (f x ++ (obs f (xs.eraseIdx i) ++ l))) (hi : i < xs.length) : HS w0 w (obs f (xs.set i x) ++ l) := by
  refine h.perm ?_
  rw [← List.append_assoc]
  exact (obs_put hi).append_right l
theorem HS.snocI {l : List Ob} {xs : List α} {x : α} (h : HS w0 w (f x ++ (obs f xs ++ l))) : HS w0 w (obs f (xs ++ [x]) ++ l) := by
  refine h.perm ?_
  rw [← List.append_assoc]
  refine List.Perm.append_right l ?_
  unfold obs
  rw [List.flatMap_append]
  simp only [List.flatMap_cons, List.flatMap_nil, List.append_nil]
  exact List.perm_append_comm
/-- an object of the list, to be read -/
theorem HS.memI {l : List Ob} {xs : List α} {x : α} (h : HS w0 w (obs f xs ++ l)) (hx : x ∈ xs) : HS w0 w (f x) := by
  obtain ⟨i, hi, rfl⟩ := List.mem_iff_getElem.1 hx
  have h1 := h.takeI (List.getElem?_eq_getElem hi)
  exact ⟨h1.base, fun o ho => h1.own o (List.mem_append_left _ ho), (List.pairwise_append.1 h1.apart).1⟩
theorem HS.left {l m : List Ob} (h : HS w0 w (l ++ m)) : HS w0 w l := ⟨h.base, fun o ho => h.own o (List.mem_append_left _ ho), (List.pairwise_append.1 h.apart).1⟩
theorem HS.right {l m : List Ob} (h : HS w0 w (l ++ m)) : HS w0 w m := ⟨h.base, fun o ho => h.own o (List.mem_append_right _ ho), (List.pairwise_append.1 h.apart).2.1⟩
theorem HS.swap {l m : List Ob} (h : HS w0 w (l ++ m)) : HS w0 w (m ++ l) := h.perm List.perm_append_comm
/-- several objects seen as one -/
def Ab.of (l : List Ob) : Ab where
  ok B w := (∀ o ∈ l, o.ok B w) ∧ l.Pairwise Ob.apart
  has k := ∃ o ∈ l, o.has k
  lt B w h k hk := by
    obtain ⟨o, ho, hk⟩ := hk
    exact Ob.lt (h.1 o ho) k hk
  keep B w w' row h hg hne := ⟨fun o ho => Ob.keep (h.1 o ho) hg (fun k hk => hne k ⟨o, ho, hk⟩), h.2⟩
  mono B B' w h hb := ⟨fun o ho => Ob.mono (h.1 o ho) hb, h.2⟩
theorem HS.pack {l m : List Ob} (h : HS w0 w (l ++ m)) : HS w0 w (.abs (Ab.of l) :: m) := by
  obtain ⟨p1, p2, p3⟩ := List.pairwise_append.1 h.apart
  refine h.right.cons ⟨fun o ho => h.own o (List.mem_append_left _ ho), p1⟩ fun o' ho' k hk hk' => ?_
  obtain ⟨o, ho, hk⟩ := hk
  exact p3 o ho o' ho' k hk hk'
theorem HS.unpack {l m : List Ob} (h : HS w0 w (.abs (Ab.of l) :: m)) : HS w0 w (l ++ m) := by
  have h1 : (∀ o ∈ l, o.ok w0.heap.size w) ∧ l.Pairwise Ob.apart := h.own _ List.mem_cons_self
  obtain ⟨a1, a2⟩ := List.pairwise_cons.1 h.apart
  refine ⟨h.base, fun o ho => ?_, List.pairwise_append.2 ⟨h1.2, a2, fun x hx y hy k hk hk' => a1 y hy k ⟨x, hx, hk⟩ hk'⟩⟩
  rcases List.mem_append.1 ho with h2 | h2
  · exact h1.1 o h2
  · exact h.own o (List.mem_cons_of_mem _ h2)
/-- a list of things, each of several objects, as one -/
def obA (f : α → List Ob) (xs : List α) : Ob := .abs (Ab.of (obs f xs))
theorem HS.nilA {l : List Ob} (h : HS w0 w l) : HS w0 w (obA f [] :: l) := HS.pack (l := obs f []) h
theorem HS.snocA {l : List Ob} {xs : List α} {x : α} (h : HS w0 w (f x ++ (obA f xs :: l))) : HS w0 w (obA f (xs ++ [x]) :: l) := by
  refine HS.pack (HS.snocI ?_)
  have h1 : HS w0 w (obA f xs :: (f x ++ l)) := h.perm List.perm_middle
  refine h1.unpack.perm ?_
  rw [← List.append_assoc, ← List.append_assoc]
  exact List.perm_append_comm.append_right l
theorem HS.takeA {l : List Ob} {xs : List α} {i : Nat} {x : α} (h : HS w0 w (obA f xs :: l)) (hi : xs[i]? = some x) : HS w0 w (f x ++ (obA f (xs.eraseIdx i) :: l)) := by
  have h1 := h.unpack.takeI hi
  have h2 : HS w0 w (obs f (xs.eraseIdx i) ++ (f x ++ l)) := h1.perm (by
    rw [← List.append_assoc, ← List.append_assoc]
    exact List.perm_append_comm.append_right l)
  exact h2.pack.perm List.perm_middle.symm
theorem HS.putA {l : List Ob} {xs : List α} {i : Nat} {x : α} (h : HS w0 w (f x ++ (obA f (xs.eraseIdx i) :: l))) (hi : i < xs.length) : HS w0 w (obA f (xs.set i x) :: l) := by
  have h1 : HS w0 w (obA f (xs.eraseIdx i) :: (f x ++ l)) := h.perm List.perm_middle
  refine HS.pack (HS.putI ?_ hi)
  refine h1.unpack.perm ?_
  rw [← List.append_assoc, ← List.append_assoc]
  exact List.perm_append_comm.append_right l
/-- one of it, to be read -/
theorem HS.memA {l : List Ob} {xs : List α} {x : α} (h : HS w0 w (obA f xs :: l)) (hx : x ∈ xs) : HS w0 w (f x) := h.unpack.memI hx
end
end Go.Proofs.YtbnjbgcadkdljaaGreatDoor

namespace Go.Proofs.YtbnjbgcadkdljaaGreatDoor
open Go Go.RowKit

section
variable {P : Program} {n : Nat} {L : Fr} {o : Oper} {w : World}
/-- the place of an element, by the place of the slice alone -/
theorem y_iae {t : TypeId} {x y : Operand} {k : IntKind} {A : Option Addr} {len cap size i p : Nat} {q : Int} (hA : ∃ b off, A = some ⟨b, off, none⟩) (ho : o.op = .indexAddr t x y) (hx : ev L x = some (.slice A len cap)) (hy : ev L y = some (.int k q)) (ht : elB P t size = true)
    (hq : q = (i : Int)) (hi : i < len) (hp : i * size = p) : Yd P n L o (pt A p) w := by
  obtain ⟨b, off, rfl⟩ := hA
  have := y_ia (P := P) (n := n) (w := w) (p := off + p) ho hx hy ht rfl hq hi (by rw [hp])
  unfold pt
  rw [Option.map_some, add_at]
  exact this
end
/-! a guard on what was not reached -/
theorem guard_undef {n : Nat} {L : Fr} {a : Act} {ops : Array Oper} {g d : Nat} (ha : Rep n L a) (hgd : (ops[g]?).bind (·.dst) = some d) (hv : lk L d = some undef) : yielded ops a.tmps g = none := by
  unfold yielded
  rw [hgd, Option.bind_some, ha.at_ d _ hv]
  rfl
theorem rg_offu {P : Program} {n : Nat} {ops : Array Oper} {Q : Exit → Act → World → Prop} {L : Fr} {o : Oper} {rest : List Oper} {w : World} {g d : Nat} {b : Bool} (hg : o.guard = some (g, b)) (hgd : (ops[g]?).bind (·.dst) = some d) (hv : lk L d = some undef) (hd : dok n o.dst = true)
    (k : Reg P n ops Q rest (up L o.dst undef) w) : Reg P n ops Q (o :: rest) L w := fun a ha => by
  have hw : ¬ Region.wanted o (yielded ops a.tmps) = true := by
    unfold Region.wanted
    simp [hg, guard_undef ha hgd hv]
  unfold wpList
  rw [if_neg hw]
  exact k _ (ha.put hd undef)
section
variable {P : Program} {n : Nat} {ops : Array Oper} {Q : Exit → Act → World → Prop} {R : World → Prop} {L : Fr} {o : Oper} {l : List Oper} {w : World}
end
theorem HS.addr {w0 w : World} {l : List Ob} {i n cap size : Nat} {A : Option Addr} {xs : List Value} {e : TypeId} (h : HS w0 w l) (hi : l[i]? = some (.row A n cap xs e size)) (hn : 0 < n) : ∃ b off, A = some ⟨b, off, none⟩ := by
  have hO : Own _ _ _ _ _ _ _ _ := h.at_ hi
  obtain ⟨_, h2, _, h0 | ⟨g, cur, hA, _⟩⟩ := hO
  · omega
  · exact ⟨g, 0, hA⟩
theorem lawOf {P : Program} {f : FuncId} {args : List Value} {w : World} (h : Ret P f args w (fun v w' => v = .bool true ∧ Below w.heap.size w w')) : Calls P f args.toArray w fun e w' => e = .returned (.bool true) ∧ Below w.heap.size w w' :=
  Calls.mono h fun e w' ⟨v, he, hv, hb⟩ => ⟨by rw [he, hv], hb⟩
def I6 (x : Int) : Prop := -9223372036854775808 ≤ x ∧ x ≤ 9223372036854775807
theorem ret_v {P : Program} {f : FuncId} {args : List Value} {w : World} {u v : Value} {Q : World → Prop} (h : Ret P f args w (fun z w' => z = u ∧ Q w')) (e : u = v) : Ret P f args w (fun z w' => z = v ∧ Q w') := e ▸ h
end Go.Proofs.YtbnjbgcadkdljaaGreatDoor

namespace Go.Proofs.YtbnjbgcadkdljaaGreatDoor
open Go Go.RowKit

section
variable {P : Program} {n : Nat} {Q : Exit → Act → World → Prop} {L : Fr} {w : World} {c : Code}
theorem cw_loopR (k : Nat) (h : Cw P n (Exit.then (fun a w => Code.rounds P c Q k a w) Q) c L w) : Cw P n Q (.loop c) L w := fun a ha => wp_loop_rounds (k + 1) (h a ha)
theorem fn_roundR {k : Nat} (h : Cw P n (Exit.then (fun a w => Code.rounds P c Q k a w) Q) c L w) : Fin n (Exit.then (fun a w => Code.rounds P c Q (k + 1) a w) Q) .normal L w := fun a ha => h a ha
end
end Go.Proofs.YtbnjbgcadkdljaaGreatDoor
