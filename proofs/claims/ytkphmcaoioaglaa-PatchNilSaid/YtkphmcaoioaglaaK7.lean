/- Bytes as strings; lists of numbers as cells. -/
import Derived.Test.YtkphmcaoioaglaaK6
import Derived.Lib.SliceRun
import Derived.Laws.StructEq
set_option linter.unusedVariables false
set_option linter.unusedSimpArgs false
namespace Go.Proofs.Ytkphmcaoioaglaa
open Go Go.RowKit

theorem tdq {k : IntKind} {p q c : Int} (hp : 0 ≤ p) (h : k.wrap (p / q) = c) : k.wrap (p.tdiv q) = c := by rw [Int.tdiv_eq_ediv_of_nonneg hp]; exact h
theorem si {k : IntKind} {a b : Int} (h : a = b) : some (Value.int k a) = some (Value.int k b) := by rw [h]
/-- numbers as cells -/
def vi (k : IntKind) (zs : List Int) : List Value := zs.map (Value.int k)
theorem vi_get {k : IntKind} {zs : List Int} {i : Nat} (h : i < zs.length) : (vi k zs)[i]? = some (.int k (nth zs i)) := by
  unfold vi; rw [List.getElem?_map, nth_get? h]; rfl
theorem vi_len {k : IntKind} {zs : List Int} : (vi k zs).length = zs.length := by simp [vi]
theorem vi_app {k : IntKind} {a b : List Int} : vi k (a ++ b) = vi k a ++ vi k b := by simp [vi]
theorem vi_one {k : IntKind} {zs : List Int} : (vi k zs).all Value.oneCell' = true := by
  unfold vi; rw [List.all_eq_true]; intro v hv; obtain ⟨z, _, rfl⟩ := List.mem_map.1 hv; rfl
theorem vi_set {k : IntKind} {zs : List Int} {i : Nat} {v : Int} : putL (vi k zs) i [.int k v] = vi k (zs.set i v) := by
  unfold vi; simp only [putL, List.map_set]
theorem vi_take {k : IntKind} {zs : List Int} {i : Nat} : (vi k zs).take i = vi k (zs.take i) := by unfold vi; rw [List.map_take]
theorem vi_drop {k : IntKind} {zs : List Int} {i : Nat} : (vi k zs).drop i = vi k (zs.drop i) := by unfold vi; rw [List.map_drop]
theorem vi_zero {k : IntKind} {n : Nat} : (madeCells #[.int k 0] (n * 1)).toList = vi k (List.replicate n 0) := by
  rw [Nat.mul_one, made_one]; unfold vi; rw [List.map_replicate]
theorem Rd.of_ints {k : IntKind} {w : World} {A : Option Addr} {n : Nat} {zs : List Int} (h : Ints k w A n zs) : Rd w A (vi k zs) := fun j u hu => by
  have hj : j < n := by
    rw [← h.len, ← vi_len (k := k)]
    exact (List.getElem?_eq_some_iff.1 hu).1
  obtain ⟨b, off, e, hb, hc⟩ := h.at_ hj
  refine ⟨b, off, e, hb, ?_⟩
  rw [vi_get (by rw [h.len]; exact hj)] at hu
  cases hu; exact hc
/-- a list of bytes as a string -/
def bs (zs : List Int) : ByteArray := ⟨(zs.map fun z => UInt8.ofNat z.toNat).toArray⟩
def Byt (zs : List Int) : Prop := ∀ z ∈ zs, 0 ≤ z ∧ z < 256
theorem bs_inj {a b : List Int} (ha : Byt a) (hb : Byt b) (h : a.map (fun z => UInt8.ofNat z.toNat) = b.map (fun z => UInt8.ofNat z.toNat)) : a = b := by
  induction a generalizing b with
  | nil => cases b with | nil => rfl | cons y b => simp at h
  | cons x a ih =>
    cases b with
    | nil => simp at h
    | cons y b =>
      simp only [List.map_cons, List.cons.injEq] at h
      have h1 := ha x List.mem_cons_self
      have h2 := hb y List.mem_cons_self
      have h3 := congrArg UInt8.toNat h.1
      simp only [UInt8.toNat_ofNat'] at h3
      have : x = y := by omega
      rw [this, ih (fun z hz => ha z (List.mem_cons_of_mem _ hz)) (fun z hz => hb z (List.mem_cons_of_mem _ hz)) h.2]
theorem fold_bs : ∀ (ns : List Int) (acc : List UInt8), ns.foldl (fun r n => r.push (UInt8.ofNat n.toNat)) (⟨acc.toArray⟩ : ByteArray) = ⟨(acc ++ ns.map fun z => UInt8.ofNat z.toNat).toArray⟩
  | [], acc => by simp
  | z :: ns, acc => by
    rw [List.foldl_cons]
    have : (⟨acc.toArray⟩ : ByteArray).push (UInt8.ofNat z.toNat) = ⟨(acc ++ [UInt8.ofNat z.toNat]).toArray⟩ := by simp [ByteArray.push]
    rw [this, fold_bs ns]
    simp
section
variable {P : Program} {n : Nat} {L : Fr} {o : Oper} {w : World}
theorem y_str {s d e : TypeId} {x : Operand} {A : Option Addr} {len cap : Nat} {zs : List Int} (ho : o.op = .convert s d x) (hs : P.underlying s = some (.slice e)) (he : P.underlying e = some (.int .u8)) (hd : P.underlying d = some .string) (hx : ev L x = some (.slice A len cap)) (hr : Rd w A (vi .u8 zs)) (hl : zs.length = len) : Yd P n L o (.string (bs zs)) w := fun a ha => by
  subst hl
  have hrun : (Conv.bytesToString (.slice A zs.length cap)).run P w = .ok (.string (bs zs)) w := by
    cases A with
    | none =>
      have : zs = [] := by
        cases zs with
        | nil => rfl
        | cons z zs => obtain ⟨_, _, e, _⟩ := hr 0 _ rfl; cases e
      subst this
      simp [Conv.bytesToString, bs]; rfl
    | some ad =>
      have hl : (loadCells ad (vi .u8 zs).length).run P w = .ok (vi .u8 zs).toArray w := run_loadCells_list (P := P) w ad (vi .u8 zs) (fun j v hv => by
        obtain ⟨b, off, e1, _, hc⟩ := hr j v hv
        cases e1
        rw [add_at]; exact hc)
      rw [vi_len] at hl
      have h2 := run_bytesToString (P := P) w ad zs.length cap zs hl
      have h3 := fold_bs zs []
      rw [List.nil_append] at h3
      rw [h2]
      exact congrArg (fun s => Result.ok (Value.string s) w) h3
  unfold execOp
  simp only [ho, ha.ev hx, convert, Sem.run_bind, run_underlying hs w, run_underlying hd w, run_underlying he w, Result.andThen_ok, hrun, Sem.run_pure]
theorem y_eq2 {op : BinOp} {t t' : TypeId} {x y : Operand} {p q v : Value} (ho : o.op = .binOp op t x y t') (hx : ev L x = some p) (hy : ev L y = some q) (hg : (eqGuard op t x y p q).run P w = .ok () w) (h : (binOp op t p q).run P w = .ok v w) : Yd P n L o v w := fun ac hac => by
  unfold execOp
  simp only [ho, hac.ev hx, hac.ev hy, Sem.run_bind, hg, h, Result.andThen_ok, Sem.run_pure]
theorem y_eqlnil {t t' e : TypeId} {x y : Operand} {A : Option Addr} {len cap : Nat} (ho : o.op = .binOp .eql t x y t') (ht : P.underlying t = some (.slice e)) (hx : ev L x = some (.slice A len cap)) (hy : ev L y = some (.slice none 0 0)) : Yd P n L o (.bool A.isNone) w :=
  y_eq2 ho hx hy rfl (Lib.run_eql_slice_nil w t e A len cap 0 0 ht)
theorem y_neqnil {t t' e : TypeId} {x y : Operand} {A : Option Addr} {len cap : Nat} (ho : o.op = .binOp .neq t x y t') (ht : P.underlying t = some (.slice e)) (hx : ev L x = some (.slice A len cap)) (hy : ev L y = some (.slice none 0 0)) : Yd P n L o (.bool (!A.isNone)) w :=
  y_eq2 ho hx hy rfl (run_neq_slice_nil_any w t e A len cap 0 0 ht)
theorem pointee_of {t e : TypeId} (h : P.underlying t = some (.pointer e)) : P.underlying t = some (.pointer (P.pointee t)) := by
  unfold Program.pointee; rw [h]
theorem y_peqlnil {t t' e : TypeId} {x y : Operand} {A : Option Addr} (ho : o.op = .binOp .eql t x y t') (ht : P.underlying t = some (.pointer e)) (hx : ev L x = some (.pointer A)) (hy : ev L y = some (.pointer none)) : Yd P n L o (.bool A.isNone) w :=
  y_eq2 ho hx hy rfl (run_eql_pointer_nil w t A (pointee_of ht))
theorem y_pneqnil {t t' e : TypeId} {x y : Operand} {A : Option Addr} (ho : o.op = .binOp .neq t x y t') (ht : P.underlying t = some (.pointer e)) (hx : ev L x = some (.pointer A)) (hy : ev L y = some (.pointer none)) : Yd P n L o (.bool (!A.isNone)) w :=
  y_eq2 ho hx hy rfl (run_neq_pointer_nil w t A (pointee_of ht))
theorem equal_bool {t : TypeId} {a b : Bool} (ht : P.underlying t = some .bool) : (Op.equal t (.bool a) (.bool b)).run P w = .ok (a == b) w := run_equalIn_bool' w 9999 t a b ht
theorem y_beql {t t' : TypeId} {x y : Operand} {a b : Bool} (ho : o.op = .binOp .eql t x y t') (ht : P.underlying t = some .bool) (hx : ev L x = some (.bool a)) (hy : ev L y = some (.bool b)) : Yd P n L o (.bool (a == b)) w :=
  y_eq2 ho hx hy rfl (by simp only [binOp]; simp [equal_bool ht])
theorem y_bneq {t t' : TypeId} {x y : Operand} {a b : Bool} (ho : o.op = .binOp .neq t x y t') (ht : P.underlying t = some .bool) (hx : ev L x = some (.bool a)) (hy : ev L y = some (.bool b)) : Yd P n L o (.bool (!(a == b))) w :=
  y_eq2 ho hx hy rfl (by simp only [binOp]; simp [equal_bool ht])
/-! structs of numbers -/
def numsB (P : Program) : List Field → Nat → Bool
  | [], _ => true
  | f :: fs, j => !(f.name == "_") && (match P.underlying f.type with | some (.int _) => true | _ => false) && f.offset == j && numsB P fs (j + 1)
def seqB (P : Program) (t : TypeId) (k : Nat) : Bool := (match P.underlying t with | some (.struct fs) => numsB P fs.toList 0 && fs.size == k | _ => false) && !P.stoodInHeld t && !P.eqGuardType P.depth t
def iv (ks : List IntKind) (a : List Int) : List Value := List.zipWith Value.int ks a
theorem part_one {t : TypeId} {cs : Array Value} {off : Nat} {v : Value} {k : IntKind} (ht : P.underlying t = some (.int k)) (hv : cs[off]? = some v) : (part t cs off).run P w = .ok v w := by
  unfold part
  have : (isAgg t).run P w = .ok false w := by unfold isAgg; rw [Sem.run_bind, run_underlying ht w]; rfl
  rw [Sem.run_bind, this]
  simp [hv]
theorem eqf {d : Nat} : ∀ (fs : List Field) (ks : List IntKind) (a b : List Int) (j : Nat) (X Y : Array Value), numsB P fs j = true → ks.length = fs.length → a.length = fs.length → b.length = fs.length →
    (∀ i v, (iv ks a)[i]? = some v → X[j + i]? = some v) → (∀ i v, (iv ks b)[i]? = some v → Y[j + i]? = some v) → (Op.eqFields (d + 1) X Y fs).run P w = .ok (decide (a = b)) w
  | [], [], [], [], _, _, _, _, _, _, _, _, _ => by simp [Op.eqFields]
  | f :: fs, k :: ks, x :: a, y :: b, j, X, Y, hn, hk, ha, hb, hX, hY => by
    simp only [numsB, Bool.and_eq_true, beq_iff_eq, Bool.not_eq_true', beq_eq_false_iff_ne, ne_eq] at hn
    obtain ⟨⟨⟨h1, h2⟩, h3⟩, h4⟩ := hn
    have hu : ∃ k', P.underlying f.type = some (.int k') := by
      split at h2
      · rename_i k' hk'; exact ⟨k', hk'⟩
      · cases h2
    obtain ⟨k', hu⟩ := hu
    have hx0 := hX 0 (.int k x) rfl
    have hy0 := hY 0 (.int k y) rfl
    rw [Nat.add_zero, ← h3] at hx0 hy0
    have ih := eqf (d := d) fs ks a b (j + 1) X Y h4 (by simpa using hk) (by simpa using ha) (by simpa using hb) (fun i v hv => by have := hX (i + 1) v hv; rwa [Nat.add_assoc, Nat.add_comm 1 i]) (fun i v hv => by have := hY (i + 1) v hv; rwa [Nat.add_assoc, Nat.add_comm 1 i])
    simp only [Op.eqFields, ne_eq, h1, not_false_eq_true, if_true, Sem.run_bind, part_one hu hx0, part_one hu hy0, Result.andThen_ok, run_equalIn_int w d f.type k k' x y hu, Sem.run_ite, ih, Sem.run_pure]
    by_cases hxy : x = y
    · subst hxy; simp
    · simp [hxy]
theorem y_seq {op : BinOp} {v : Bool} {t t' : TypeId} {x y : Operand} {ks : List IntKind} {a b : List Int} {k : Nat} {X Y : List Value} (ho : o.op = .binOp op t x y t') (hop : (op = .eql ∧ v = decide (a = b)) ∨ (op = .neq ∧ v = decide (¬ a = b))) (ht : seqB P t k = true) (hx : ev L x = some (.agg X.toArray)) (hy : ev L y = some (.agg Y.toArray))
    (hX : X = iv ks a) (hY : Y = iv ks b) (hk : ks.length = k) (ha : a.length = k) (hb : b.length = k) : Yd P n L o (.bool v) w := by
  subst hX; subst hY
  unfold seqB at ht
  simp only [Bool.and_eq_true, Bool.not_eq_true'] at ht
  obtain ⟨⟨h1, h2⟩, h3⟩ := ht
  split at h1
  · rename_i fs hu
    simp only [Bool.and_eq_true, beq_iff_eq] at h1
    have hfs : P.fieldsOf t = fs := by unfold Program.fieldsOf; rw [hu]
    have hl : fs.toList.length = k := by simpa using h1.2
    have he : (Op.equal t (.agg (iv ks a).toArray) (.agg (iv ks b).toArray)).run P w = .ok (decide (a = b)) w := by
      show (Op.equalIn (9999 + 1) t _ _).run P w = _
      rw [run_equalIn_struct w 9999 t _ _ (by rw [hfs]; exact hu) h2, hfs]
      exact eqf (d := 9998) fs.toList ks a b 0 _ _ h1.1 (by omega) (by omega) (by omega) (fun i v hv => by simpa using hv) (fun i v hv => by simpa using hv)
    refine y_eq2 ho hx hy (run_eqGuard_agg w _ _ _ _ _ _ h3) ?_
    rcases hop with ⟨rfl, rfl⟩ | ⟨rfl, rfl⟩
    · simp only [binOp]; simp [he]
    · simp only [binOp]; simp [he, decide_not]
  · cases h1
theorem str_dec {a b : List Int} (ha : Byt a) (hb : Byt b) : ((bs a).toList == (bs b).toList) = decide (a = b) := by
  unfold bs
  rw [ByteArray.toList_mk, ByteArray.toList_mk]
  by_cases h : a = b
  · subst h; simp
  · have h1 : ¬ a.map (fun z => UInt8.ofNat z.toNat) = b.map (fun z => UInt8.ofNat z.toNat) := fun e => h (bs_inj ha hb e)
    rw [decide_eq_false h]
    exact beq_false_of_ne h1
theorem y_streq {t t' : TypeId} {x y : Operand} {a b : List Int} (ho : o.op = .binOp .eql t x y t') (hx : ev L x = some (.string (bs a))) (hy : ev L y = some (.string (bs b))) (ha : Byt a) (hb : Byt b) : Yd P n L o (.bool (decide (a = b))) w := fun ac hac => by
  unfold execOp
  simp only [ho, hac.ev hx, hac.ev hy]
  simp [eqGuard, binOp, Op.stringOp, str_dec ha hb]
theorem y_strne {t t' : TypeId} {x y : Operand} {a b : List Int} (ho : o.op = .binOp .neq t x y t') (hx : ev L x = some (.string (bs a))) (hy : ev L y = some (.string (bs b))) (ha : Byt a) (hb : Byt b) : Yd P n L o (.bool (decide (¬ a = b))) w := fun ac hac => by
  unfold execOp
  simp only [ho, hac.ev hx, hac.ev hy]
  simp [eqGuard, binOp, Op.stringOp, str_dec ha hb]
end
theorem subA_zero {A : Option Addr} {c s : Nat} : subA A c 0 s = A := by
  unfold subA
  split
  · rfl
  · cases A <;> simp [Addr.add]
theorem HS.cap {w0 w : World} {l m : List Ob} {i : Nat} {A : Option Addr} {n cap cap' : Nat} {xs : List Value} {e : TypeId} {size : Nat} (h : HS w0 w l) (hi : l[i]? = some (.row A n cap xs e size)) (h1 : n ≤ cap') (h2 : cap' ≤ cap) (hm : l.set i (.row A n cap' xs e size) = m) : HS w0 w m := by
  refine h.clip hi h1 h2 (Nat.le_refl _) ?_
  rw [List.take_of_length_le (by rw [(h.len hi).1]; exact Nat.le_refl _)]; exact hm
end Go.Proofs.Ytkphmcaoioaglaa
