/- Strings: their parts; their runes, one by one; what a strings.Builder needs. -/
import Derived.Test.YtgkkbeomhkggjaaDoorMQ
import Derived.Test.YtgkkbeomhkggjaaDoorPlain34
import Derived.Lib.OthersKept
import Derived.Lib.UnsafeStr
import Derived.Lib.Builder
import Derived.Laws.Externs
set_option linter.unusedVariables false
set_option linter.unusedSimpArgs false
namespace Go.Proofs.YtgkkbeomhkggjaaDoor
open Go Go.RowKit

theorem bs_size (l : List Int) : (bs l).size = l.length := by simp [bs, ByteArray.size]
theorem bs_nil : bs [] = .empty := rfl
theorem byt_toNat {c : Int} (h : 0 ≤ c ∧ c < 256) : ((UInt8.ofNat c.toNat).toNat : Int) = c := by
  have : (UInt8.ofNat c.toNat).toNat = c.toNat := by simp; omega
  rw [this]; omega
theorem bs_get {l : List Int} {i : Nat} (hi : i < l.length) : (bs l)[i]? = some (UInt8.ofNat (nth l i).toNat) := by
  have h1 : i < (bs l).size := by rw [bs_size]; exact hi
  rw [getElem?_pos (bs l) i h1]
  have h2 : (bs l)[i]? = (bs l).data[i]? := rfl
  rw [← getElem?_pos (bs l) i h1, h2]
  simp only [bs, List.getElem?_toArray, List.getElem?_map]
  rw [List.getElem?_eq_getElem hi, nth_lt hi]; rfl
theorem bs_getI {l : List Int} {i : Nat} (hB : Byt l) (hi : i < l.length) : (((bs l).get! i).toNat : Int) = nth l i := by
  have h0 : (bs l).get! i = UInt8.ofNat (nth l i).toNat := by
    show (bs l).data[i]! = _
    simp only [bs, Array.getElem!_eq_getD, Array.getD_eq_getD_getElem?, List.getElem?_toArray, List.getElem?_map]
    rw [List.getElem?_eq_getElem hi, nth_lt hi]; rfl
  rw [h0]; exact byt_toNat (hB _ (nth_mem hi))
theorem bs_extract (l : List Int) (lo hi : Nat) : (bs l).extract lo hi = bs ((l.take hi).drop lo) := by
  apply ByteArray.ext
  rw [ByteArray.data_extract]
  simp only [bs, List.map_take, List.map_drop, List.extract_toArray, List.extract_eq_take_drop]
  congr 1
  rw [← List.drop_take]
theorem nth_drop (l : List Int) (i k : Nat) : nth (l.drop i) k = nth l (i + k) := by simp [nth, List.getD, List.getElem?_drop]
def decN (x0 x1 x2 x3 n : Nat) : Nat × Nat :=
  let cont (k x : Nat) : Bool := k < n && x / 64 == 2
  if x0 < 0x80 then (x0, 1)
  else if x0 / 32 == 6 && cont 1 x1 then
    let c := (x0 % 32) * 64 + x1 % 64
    if c ≥ 0x80 then (c, 2) else (Utf8.runeError, 1)
  else if x0 / 16 == 14 && cont 1 x1 && cont 2 x2 then
    let c := (x0 % 16) * 4096 + (x1 % 64) * 64 + x2 % 64
    if c ≥ 0x800 && Utf8.valid c then (c, 3) else (Utf8.runeError, 1)
  else if x0 / 8 == 30 && cont 1 x1 && cont 2 x2 && cont 3 x3 then
    let c := (x0 % 8) * 262144 + (x1 % 64) * 4096 + (x2 % 64) * 64 + x3 % 64
    if c ≥ 0x10000 && Utf8.valid c then (c, 4) else (Utf8.runeError, 1)
  else (Utf8.runeError, 1)
def decI (b0 y1 y2 y3 : Int) (n : Nat) : Int × Nat :=
  if b0 < 128 then (b0, 1)
  else if 192 ≤ b0 ∧ b0 < 224 ∧ (1 < n ∧ 128 ≤ y1 ∧ y1 < 192) then
    (if 128 ≤ (b0 - 192) * 64 + (y1 - 128) then ((b0 - 192) * 64 + (y1 - 128), 2) else (65533, 1))
  else if 224 ≤ b0 ∧ b0 < 240 ∧ (1 < n ∧ 128 ≤ y1 ∧ y1 < 192) ∧ (2 < n ∧ 128 ≤ y2 ∧ y2 < 192) then
    (let c := (b0 - 224) * 4096 + (y1 - 128) * 64 + (y2 - 128)
     if 2048 ≤ c ∧ ¬ (55296 ≤ c ∧ c < 57344) then (c, 3) else (65533, 1))
  else if 240 ≤ b0 ∧ b0 < 248 ∧ (1 < n ∧ 128 ≤ y1 ∧ y1 < 192) ∧ (2 < n ∧ 128 ≤ y2 ∧ y2 < 192) ∧ (3 < n ∧ 128 ≤ y3 ∧ y3 < 192) then
    (let c := (b0 - 240) * 262144 + (y1 - 128) * 4096 + (y2 - 128) * 64 + (y3 - 128)
     if 65536 ≤ c ∧ c ≤ 1114111 then (c, 4) else (65533, 1))
  else (65533, 1)
theorem ite_pair {p q : Prop} [Decidable p] [Decidable q] {a b : Nat × Nat} {c d : Int × Nat} (h : p ↔ q) (h1 : p → q → (a.1 : Int) = c.1 ∧ a.2 = c.2) (h2 : ¬ p → ¬ q → (b.1 : Int) = d.1 ∧ b.2 = d.2) :
    ((if p then a else b).1 : Int) = (if q then c else d).1 ∧ (if p then a else b).2 = (if q then c else d).2 := by
  by_cases hp : p
  · rw [if_pos hp, if_pos (h.1 hp)]; exact h1 hp (h.1 hp)
  · rw [if_neg hp, if_neg (fun hq => hp (h.2 hq))]; exact h2 hp (fun hq => hp (h.2 hq))
theorem valid_nat (c : Nat) : Utf8.valid (c : Int) = true ↔ (c < 55296 ∨ (57344 ≤ c ∧ c ≤ 1114111)) := by
  unfold Utf8.valid
  simp only [Bool.or_eq_true, Bool.and_eq_true, decide_eq_true_eq]
  omega
theorem dec_eq {x0 x1 x2 x3 n : Nat} {b0 y1 y2 y3 : Int} (hn : 0 < n) (e0 : (x0 : Int) = b0 ∧ 0 ≤ b0 ∧ b0 < 256) (e1 : 1 < n → (x1 : Int) = y1 ∧ 0 ≤ y1 ∧ y1 < 256) (e2 : 2 < n → (x2 : Int) = y2 ∧ 0 ≤ y2 ∧ y2 < 256) (e3 : 3 < n → (x3 : Int) = y3 ∧ 0 ≤ y3 ∧ y3 < 256) :
    ((decN x0 x1 x2 x3 n).1 : Int) = (decI b0 y1 y2 y3 n).1 ∧ (decN x0 x1 x2 x3 n).2 = (decI b0 y1 y2 y3 n).2 := by
  have c1 : (decide (1 < n) && x1 / 64 == 2) = true ↔ (1 < n ∧ 128 ≤ y1 ∧ y1 < 192) := by simp only [Bool.and_eq_true, decide_eq_true_eq, beq_iff_eq]; constructor <;> (rintro ⟨p, q⟩; have := e1 p; omega)
  have c2 : (decide (2 < n) && x2 / 64 == 2) = true ↔ (2 < n ∧ 128 ≤ y2 ∧ y2 < 192) := by simp only [Bool.and_eq_true, decide_eq_true_eq, beq_iff_eq]; constructor <;> (rintro ⟨p, q⟩; have := e2 p; omega)
  have c3 : (decide (3 < n) && x3 / 64 == 2) = true ↔ (3 < n ∧ 128 ≤ y3 ∧ y3 < 192) := by simp only [Bool.and_eq_true, decide_eq_true_eq, beq_iff_eq]; constructor <;> (rintro ⟨p, q⟩; have := e3 p; omega)
  unfold decN decI
  simp only
  refine ite_pair (by omega) (fun _ _ => ⟨e0.1, rfl⟩) fun _ _ => ?_
  refine ite_pair ?_ (fun hp hq => ?_) fun _ _ => ?_
  · rw [Bool.and_eq_true, c1, beq_iff_eq]; omega
  · have := e1 hq.2.2.1
    refine ite_pair (by omega) (fun _ _ => ⟨by simp only; omega, rfl⟩) fun _ _ => ⟨rfl, rfl⟩
  refine ite_pair ?_ (fun hp hq => ?_) fun _ _ => ?_
  · rw [Bool.and_eq_true, Bool.and_eq_true, c1, c2, beq_iff_eq]; omega
  · have := e1 hq.2.2.1.1; have := e2 hq.2.2.2.1
    refine ite_pair ?_ (fun _ _ => ⟨by simp only; omega, rfl⟩) fun _ _ => ⟨rfl, rfl⟩
    rw [Bool.and_eq_true, decide_eq_true_eq, valid_nat]; omega
  refine ite_pair ?_ (fun hp hq => ?_) fun _ _ => ⟨rfl, rfl⟩
  · rw [Bool.and_eq_true, Bool.and_eq_true, Bool.and_eq_true, c1, c2, c3, beq_iff_eq]; omega
  · have := e1 hq.2.2.1.1; have := e2 hq.2.2.2.1.1; have := e3 hq.2.2.2.2.1
    refine ite_pair ?_ (fun _ _ => ⟨by simp only; omega, rfl⟩) fun _ _ => ⟨rfl, rfl⟩
    rw [Bool.and_eq_true, decide_eq_true_eq, valid_nat]; omega
/-- the rune that begins at a byte -/
theorem decode_eq {l : List Int} (hB : Byt l) {i : Nat} (hi : i < l.length) : ((Utf8.decode (bs l) i).1 : Int) = (runeD (l.drop i)).1 ∧ (Utf8.decode (bs l) i).2 = (runeD (l.drop i)).2 := by
  have b0 := hB _ (nth_mem hi)
  have e0 := bs_getI hB hi
  have g : ∀ k, i + k < l.length → (((bs l).get! (i + k)).toNat : Int) = nth l (i + k) ∧ 0 ≤ nth l (i + k) ∧ nth l (i + k) < 256 := fun k hk => ⟨bs_getI hB hk, hB _ (nth_mem hk)⟩
  have hD : Utf8.decode (bs l) i = decN ((bs l).get! i).toNat ((bs l).get! (i + 1)).toNat ((bs l).get! (i + 2)).toNat ((bs l).get! (i + 3)).toNat (l.length - i) := by
    unfold Utf8.decode decN
    rw [bs_size]
    have q : ∀ k, (decide (i + k < l.length)) = decide (k < l.length - i) := fun k => decide_eq_decide.2 (by omega)
    simp only [q, Nat.add_zero]
  have hR : runeD (l.drop i) = decI (nth l i) (nth l (i + 1)) (nth l (i + 2)) (nth l (i + 3)) (l.length - i) := by
    unfold runeD decI
    simp only [nth_drop, Nat.add_zero, List.length_drop]
  rw [hD, hR]
  have g1 := g 1; have g2 := g 2; have g3 := g 3
  exact dec_eq (by omega) ⟨e0, b0⟩ (fun h => g1 (by omega)) (fun h => g2 (by omega)) (fun h => g3 (by omega))

/-- one object is written (the written row is the object's) -/
theorem HS.wroteA {w0 w w' : World} {l : List Ob} {i : Nat} {o o' : Ob} {row : Nat} (h : HS w0 w l) (hi : l[i]? = some o) (hr : o.has row) (hg : w.grownBy w' (some row)) (ho : o'.ok w0.heap.size w') (hb : ∀ k, o'.has k → o.has k ∨ w.heap.size ≤ k) : HS w0 w' (l.set i o') := by
  have hbase : Below w0.heap.size w0 w' := h.base.grown hg h.base.size fun k hk => by cases hk; exact (Ob.lt (h.at_ hi) row hr).1
  have hil := (List.getElem?_eq_some_iff.1 hi).1
  have hap : ∀ j x, l[j]? = some x → j ≠ i → o.apart x := by
    intro j x hj hne
    obtain ⟨hi', rfl⟩ := List.getElem?_eq_some_iff.1 hi
    obtain ⟨hj', rfl⟩ := List.getElem?_eq_some_iff.1 hj
    rcases Nat.lt_or_gt_of_ne hne with h1 | h1
    · exact apart_symm (List.pairwise_iff_getElem.1 h.apart j i hj' hi' h1)
    · exact List.pairwise_iff_getElem.1 h.apart i j hi' hj' h1
  have hap' : ∀ j x, l[j]? = some x → j ≠ i → o'.apart x := by
    intro j x hj hne k hk hx
    rcases hb k hk with e | hk'
    · exact hap j x hj hne k e hx
    · have := (Ob.lt (h.at_ hj) _ hx).2
      omega
  refine ⟨hbase, fun x hx => ?_, ?_⟩
  · obtain ⟨j, hj⟩ := List.mem_iff_getElem?.1 hx
    by_cases hji : i = j
    · subst hji
      rw [List.getElem?_set_self hil] at hj
      cases hj; exact ho
    · rw [List.getElem?_set_ne hji] at hj
      exact Ob.keep (h.at_ hj) hg (fun k hk e => by cases e; exact hap j x hj (Ne.symm hji) row hr hk)
  · rw [List.pairwise_iff_getElem]
    intro a b ha hb' hab
    have ha' : a < l.length := by simpa using ha
    have hb2 : b < l.length := by simpa using hb'
    rw [List.getElem_set, List.getElem_set]
    split
    · rename_i e
      subst e
      rw [if_neg (by omega)]
      exact hap' b _ (List.getElem?_eq_getElem hb2) (by omega)
    · split
      · rename_i e
        subst e
        exact apart_symm (hap' a _ (List.getElem?_eq_getElem ha') (by omega))
      · exact List.pairwise_iff_getElem.1 h.apart a b ha' hb2 hab
/-- a block that steps through a string: its place -/
def itAb (b : Nat) (s : List Int) (p : Nat) : Ab where
  ok B w := B ≤ b ∧ w.heap[b]? = some (.stringIter (bs s) p)
  has k := k = b
  lt := fun B w h k hk => by subst hk; exact ⟨h.1, heap_lt h.2⟩
  keep := fun B w w' row h hg hne => ⟨h.1, (hg.block b (heap_lt h.2) (fun e => hne b rfl e.symm)).trans h.2⟩
  mono := fun B B' w h hb => ⟨Nat.le_trans hb h.1, h.2⟩
def itOb (b : Nat) (s : List Int) (p : Nat) : Ob := .abs (itAb b s p)
section
variable {P : Program} {n : Nat} {L : Fr} {o : Oper} {w : World}
theorem op_range {t : TypeId} {x : Operand} {s : List Int} {w0 : World} {l : List Ob} (H : HS w0 w l) (ho : o.op = .range t x) (hu : P.underlying t = some .string) (hx : ev L x = some (.string (bs s))) :
    OpS P n L o w (fun u w' => ∃ b, u = .pointer (some ⟨b, 0, none⟩) ∧ HS w0 w' (itOb b s 0 :: l)) := op_run fun a ha => by
  refine ⟨_, w.alloc (.stringIter (bs s) 0), ?_, w.heap.size, rfl, ?_⟩
  · unfold execOp
    simp [ho, ha.ev hx, Instr.range, Sem.run_bind, run_underlying hu w]
  · refine (H.ext ((Below.refl _ _).alloc (Nat.le_refl _) _)).cons ⟨H.base.size, heap_alloc_new w _⟩ fun o' ho' k hk hk' => ?_
    have : k = w.heap.size := hk
    subst this
    exact absurd (Ob.lt (H.own o' ho') _ hk').2 (Nat.lt_irrefl _)
theorem op_next {x : Operand} {s : List Int} {w0 : World} {l m : List Ob} {i b p : Nat} (H : HS w0 w l) (ho : o.op = .next x true) (hi : l[i]? = some (itOb b s p)) (hx : ev L x = some (.pointer (some ⟨b, 0, none⟩))) (hB : Byt s) (hp : p < s.length)
    (hm : l.set i (itOb b s (p + (runeD (s.drop p)).2)) = m) :
    OpS P n L o w (fun u w' => u = .tuple #[.bool true, .int .i64 (p : Int), .int .i32 (runeD (s.drop p)).1] ∧ HS w0 w' m) := op_run fun a ha => by
  subst hm
  have hO : w0.heap.size ≤ b ∧ w.heap[b]? = some (.stringIter (bs s) p) := H.at_ hi
  obtain ⟨d1, d2⟩ := decode_eq hB hp
  have hrun := Lib.run_next_any_at (P := P) w b (bs s) p o.type hO.2 (by rw [bs_size]; exact hp)
  refine ⟨_, w.iterAt b (bs s) (p + (runeD (s.drop p)).2), ?_, rfl, H.wroteA hi (row := b) rfl ⟨rfl, rfl, rfl, by rw [Lib.iterAt_size]; exact Nat.le_refl _, fun k _ hk => Lib.iterAt_other _ _ _ _ _ (fun e => hk (by rw [e]))⟩ ⟨hO.1, Lib.iterAt_heap w b (bs s) p _ hO.2⟩ (fun k hk => .inl hk)⟩
  unfold execOp
  rw [d1, d2] at hrun
  simp [ho, ha.ev hx, hrun, Sem.run_bind]
theorem y_nextend {x : Operand} {s : List Int} {w0 : World} {l : List Ob} {i b p : Nat} (H : HS w0 w l) (ho : o.op = .next x true) (hi : l[i]? = some (itOb b s p)) (hx : ev L x = some (.pointer (some ⟨b, 0, none⟩))) (hp : ¬ p < s.length) : Yd P n L o (.tuple #[.bool false]) w := fun a ha => by
  have hO : w0.heap.size ≤ b ∧ w.heap[b]? = some (.stringIter (bs s) p) := H.at_ hi
  have hrun := Lib.run_next_end_at (P := P) w b (bs s) p o.type hO.2 (by rw [bs_size]; exact hp)
  unfold execOp
  simp [ho, ha.ev hx, hrun, Sem.run_bind]
theorem run_sliceStr {t : TypeId} {s : List Int} {vl vh : Option Value} {lo hi mx : Nat} (hu : P.underlying t = some .string) (hb : (Instr.sliceBounds false s.length s.length vl vh none).run P w = .ok (lo, hi, mx) w) :
    (Instr.slice t (.string (bs s)) vl vh none).run P w = .ok (.string (bs ((s.take hi).drop lo))) w := by
  simp [Instr.slice, Sem.run_bind, run_underlying hu w, bs_size, hb, bs_extract]
/-- s[:hi] of a string -/
theorem y_sth {t : TypeId} {x q : Operand} {k : IntKind} {s : List Int} {hi : Nat} {b : Int} (ho : o.op = .slice t x none (some q) none) (hx : ev L x = some (.string (bs s))) (hq : ev L q = some (.int k b)) (hu : P.underlying t = some .string) (hb : b = (hi : Int)) (h : hi ≤ s.length) :
    Yd P n L o (.string (bs (s.take hi))) w := fun a ha => by
  subst hb
  have h1 := run_sliceStr (P := P) (w := w) (t := t) (s := s) (vl := none) (vh := some (.int k (hi : Int))) (lo := 0) (hi := hi) (mx := s.length) hu (by simp [Instr.sliceBounds, run_sliceBound, h])
  unfold execOp
  simp [ho, ha.ev hx, ha.ev hq, Instr.sliceAt, Sem.run_bind, run_underlying hu w, h1]
/-- s[lo:] of a string -/
theorem y_stl {t : TypeId} {x q : Operand} {k : IntKind} {s : List Int} {lo : Nat} {b : Int} (ho : o.op = .slice t x (some q) none none) (hx : ev L x = some (.string (bs s))) (hq : ev L q = some (.int k b)) (hu : P.underlying t = some .string) (hb : b = (lo : Int)) (h : lo ≤ s.length) :
    Yd P n L o (.string (bs (s.drop lo))) w := fun a ha => by
  subst hb
  have h1 := run_sliceStr (P := P) (w := w) (t := t) (s := s) (vl := some (.int k (lo : Int))) (vh := none) (lo := lo) (hi := s.length) (mx := s.length) hu (by simp [Instr.sliceBounds, run_sliceBound, h])
  rw [List.take_length] at h1
  unfold execOp
  simp [ho, ha.ev hx, ha.ev hq, Instr.sliceAt, Sem.run_bind, run_underlying hu w, h1]
/-- a pointer to one's own block, as unsafe.Pointer, and back -/
theorem y_cvu {s d t T : TypeId} {x : Operand} {b : Nat} {cs : List Value} {w0 : World} {l : List Ob} {i k : Nat} (H : HS w0 w l) (ho : o.op = .convert s d x) (hi : l[i]? = some (.blk b cs T)) (hx : ev L x = some (.pointer (some ⟨b, 0, none⟩))) (hs : P.underlying s = some (.pointer t)) (hd : P.underlying d = some .unsafePointer)
    (ht : (P.info? t).map (·.size) = some (k + 1)) (hl : 0 < cs.length) : Yd P n L o (.pointer (some ⟨b, 0, none⟩)) w := fun a ha => by
  have hB := (H.at_ hi).2
  unfold Blk at hB
  cases hj : P.info? t with
  | none => rw [hj] at ht; cases ht
  | some j =>
    rw [hj] at ht
    have hsz : j.size = k + 1 := by simpa using ht
    have := Lib.run_to_unsafe (P := P) w (src := s) (dst := d) (e := T) (cells := cs.length) ⟨b, 0, none⟩ hs hd hj (by omega) (by simp [World.shape?, hB]) hl
    unfold execOp
    simp [ho, ha.ev hx, this, Sem.run_bind]
theorem y_cvp {s d u T : TypeId} {x : Operand} {b : Nat} {cs : List Value} {w0 : World} {l : List Ob} {i k : Nat} (H : HS w0 w l) (ho : o.op = .convert s d x) (hi : l[i]? = some (.blk b cs T)) (hx : ev L x = some (.pointer (some ⟨b, 0, none⟩))) (hs : P.underlying s = some .unsafePointer) (hd : P.underlying d = some (.pointer u))
    (hu : (P.info? u).map (·.size) = some k) (hl : liesAt P P.depth T (cs.length / P.cellsOf T) 0 u 1 = true) : Yd P n L o (.pointer (some ⟨b, 0, none⟩)) w := fun a ha => by
  have hB := (H.at_ hi).2
  unfold Blk at hB
  cases hj : P.info? u with
  | none => rw [hj] at hu; cases hu
  | some j =>
    have := Lib.run_from_unsafe (P := P) w (src := s) (dst := d) (e := T) (cells := cs.length) ⟨b, 0, none⟩ hs hd hj (by simp [World.shape?, hB]) hl
    unfold execOp
    simp [ho, ha.ev hx, this, Sem.run_bind]
def noescB (P : Program) (f : FuncId) : Bool := match P.funcs[f]? with | some fn => !(fn.name == "runtime.NumGoroutine") && fn.body.isNone && (Extern.findNext fn).isNone | none => false
theorem y_noesc {f : FuncId} {x : Operand} {ts : Array TypeId} {v : Value} (ho : o.op = .call { callee := .value (.func f), args := #[x], argTypes := ts }) (hf : noescB P f = true) (he : (P.funcs[f]?).bind Extern.find = some Extern.AbiNoEscape.same) (hx : ev L x = some v) : Yd P n L o v w := fun a ha => by
  unfold noescB at hf
  split at hf
  · rename_i fn hfn
    simp only [Bool.and_eq_true, Bool.not_eq_true', Option.isNone_iff_eq_none] at hf
    rw [hfn] at he
    have h1 := run_callFunc_extern (P := P) (f := f) (fn := fn) hfn hf.1.1 (by simp [hf.1.2]) hf.2 he #[v] w
    rw [Lib.run_noEscape] at h1
    have h2 : (execOp a.eval o).run P w = (callFunc f #[v]).run P w := by
      have hv : a.eval x = v := ha.ev hx
      have hff : a.eval (.func f) = .func (.func f) #[] #[] := rfl
      unfold execOp
      simp only [ho, resolve, hff, Sem.run_bind, Sem.run_pure, Result.andThen_ok, List.map_toArray, List.map_cons, List.map_nil, hv]
      simp [Deferred.ofValue, invoke]
    rw [h2, h1]; rfl
  · cases hf
/-- where a slice's first element lies -/
theorem y_sd {x : Operand} {ts : Array TypeId} {A : Addr} {len cap : Nat} (ho : o.op = .call { callee := .builtin .unsafeSliceData, args := #[x], argTypes := ts }) (hx : ev L x = some (.slice (some A) len cap)) (hc : 0 < cap) : Yd P n L o (.pointer (some A)) w := fun a ha => by
  have h1 := Lib.run_unsafeSliceData_row (P := P) w ts o.type A len cap (by omega)
  unfold execOp
  simp [ho, resolve, invoke, builtin, ha.ev hx, h1]
/-- the bytes of one's own row, as a string: the row is frozen, and is no more one's own -/
theorem op_ustr {pT iT e : TypeId} {x y : Operand} {g len cap i : Nat} {q : Int} {zs : List Int} {w0 : World} {l m : List Ob} (H : HS w0 w l) (ho : o.op = .call { callee := .builtin .unsafeString, args := #[x, y], argTypes := #[pT, iT] }) (hi : l[i]? = some (.row (some ⟨g, 0, none⟩) len cap (vi .u8 zs) e 1))
    (hx : ev L x = some (.pointer (some ⟨g, 0, none⟩))) (hy : ev L y = some (.int .i64 q)) (hq : q = (len : Int)) (hp : P.underlying pT = some (.pointer e)) (hc : P.cellsOf e = 1) (h0 : 0 < len) (hB : Byt zs) (hm : l.set i (.row none 0 0 [] e 1) = m) :
    OpS P n L o w (fun u w' => u = .string (bs zs) ∧ HS w0 w' m) := op_run fun a ha => by
  subst hm; subst hq
  have hO : Own _ _ _ _ _ _ _ _ := H.at_ hi
  obtain ⟨a1, a2, a3, a4 | ⟨g', cur, hA, hBg, hh, hs, htk⟩⟩ := hO
  · omega
  · cases hA
    have hzl : zs.length = len := by simpa [vi] using a1
    have hcap : ¬ cap = 0 := by omega
    have hmx : maxLen ≤ 9223372036854775807 := by decide
    have hrun := Lib.run_unsafeString_row (P := P) w pT iT o.type e hp hc g cur.size (by simp [World.shape?, hh]) (zs.map fun z => UInt8.ofNat z.toNat) (by intro e0; have := congrArg List.length e0; rw [List.length_map] at this; simp only [List.length_nil] at this; omega) (by simp; omega) (by rw [List.length_map]; omega) (fun j u hu => by
      rw [List.getElem?_map] at hu
      cases hz : zs[j]? with
      | none => rw [hz] at hu; cases hu
      | some z =>
        rw [hz] at hu
        have hu' : UInt8.ofNat z.toNat = u := by simpa using hu
        subst hu'
        have hz2 : (vi .u8 zs)[j]? = some (.int .u8 z) := by simp [vi, List.getElem?_map, hz]
        rw [add_at, Nat.zero_add, cell_of_row w g j _ e _ hh]
        rw [← htk, List.getElem?_take] at hz2
        split at hz2
        · rw [byt_toNat (hB z (List.mem_of_getElem? hz))]; simpa using hz2
        · cases hz2)
    simp only [List.length_map, hzl] at hrun
    have hfr : w.grownBy (w.freeze ⟨g, 0, none⟩ len) (some g) := by
      unfold World.freeze
      split
      · exact ⟨rfl, rfl, rfl, Nat.le_refl _, fun _ _ _ => rfl⟩
      · exact ⟨rfl, rfl, rfl, by simp, fun k _ hk => by
          simp only [Array.getElem?_modify]
          rw [if_neg (fun e => hk (by rw [← e]))]⟩
    refine ⟨_, _, ?_, rfl, H.wroteA hi (row := g) (by simp [Ob.has, Ob.block, hcap]) hfr (show Own _ _ _ _ _ _ _ _ from ⟨by simp, Nat.le_refl _, Nat.zero_le _, .inl rfl⟩) (fun k hk => by simp [Ob.has, Ob.block] at hk)⟩
    unfold execOp
    simp [ho, resolve, invoke, builtin, ha.ev hx, ha.ev hy, hrun, bs]
theorem y_lenB {t : TypeId} {x : Operand} {l : List Int} (ho : o.op = .call { callee := .builtin .len, args := #[x], argTypes := #[t] }) (ht : P.underlying t = some .string) (hx : ev L x = some (.string (bs l))) : Yd P n L o (.int .i64 (l.length : Int)) w := by
  rw [← bs_size l]; exact y_lens ho ht hx
theorem y_indexB {t : TypeId} {x y : Operand} {k : IntKind} {i : Nat} {q : Int} {l : List Int} (ho : o.op = .index t x y) (hu : P.underlying t = some .string) (hx : ev L x = some (.string (bs l))) (hy : ev L y = some (.int k q)) (hq : q = (i : Int)) (hB : Byt l) (hi : i < l.length) : Yd P n L o (.int .u8 (nth l i)) w := by
  have h1 := y_indexs (P := P) (n := n) (L := L) (o := o) (w := w) ho hu hx hy hq (bs_get hi)
  rwa [byt_toNat (hB _ (nth_mem hi))] at h1
theorem HS.rowA {w0 : World} {l : List Ob} {i : Nat} {A : Option Addr} {len cap : Nat} {xs : List Value} {e : TypeId} {size : Nat} (H : HS w0 w l) (hi : l[i]? = some (.row A len cap xs e size)) (hn : 0 < len) : ∃ g, A = some ⟨g, 0, none⟩ := by
  have hO : Own _ _ _ _ _ _ _ _ := H.at_ hi
  obtain ⟨a1, a2, a3, a4 | ⟨g, cur, hA, _⟩⟩ := hO
  · omega
  · exact ⟨g, hA⟩
/-- a pointer is not another than itself -/
theorem y_pnes {t te ty : TypeId} {x y : Operand} {A : Addr} {k : Nat} (ho : o.op = .binOp .neq t x y ty) (hx : ev L x = some (.pointer (some A))) (hy : ev L y = some (.pointer (some A))) (ht : P.underlying t = some (.pointer te)) (hz : (P.info? te).map (·.size) = some k) : Yd P n L o (.bool false) w := fun a ha => by
  cases hj : P.info? te with
  | none => rw [hj] at hz; cases hz
  | some j =>
    have := Lib.run_neq_ptr_same (P := P) w A ht hj
    unfold execOp
    simp [ho, ha.ev hx, ha.ev hy, eqGuard, this, Sem.run_bind]
end
/-- a list of strings, as a slice's elements -/
def strs (ls : List (List Int)) : List Value := ls.map fun l => .string (bs l)
theorem strs_len (ls : List (List Int)) : (strs ls).length = ls.length := by simp [strs]
theorem strs_get {ls : List (List Int)} {i : Nat} (h : i < ls.length) : (strs ls)[i]? = some (.string (bs (ls.getD i []))) := by simp [strs, List.getElem?_map, List.getD, h]
def Byts (ls : List (List Int)) : Prop := ∀ l ∈ ls, Byt l
theorem Byts.at_ {ls : List (List Int)} (h : Byts ls) {i : Nat} (hi : i < ls.length) : Byt (ls.getD i []) := by
  have : ls.getD i [] ∈ ls := by simp [List.getD, hi]
  exact h _ this
end Go.Proofs.YtgkkbeomhkggjaaDoor
