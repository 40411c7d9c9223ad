/- Parts of strings; a sign as a string; pieces and their places. -/
import Derived.Test.YtgkkbeomhkggjaaDoorK19
import Derived.Test.YtgkkbeomhkggjaaDoorRef34
set_option linter.unusedVariables false
set_option linter.unusedSimpArgs false
namespace Go.Proofs.YtgkkbeomhkggjaaDoor
open Go Go.RowKit
section
variable {P : Program} {n : Nat} {L : Fr} {o : Oper} {w : World}
/-- s[lo:hi] of a string -/
theorem y_sths {t : TypeId} {x p q : Operand} {k k' : IntKind} {s : List Int} {lo hi : Nat} {a b : Int} (ho : o.op = .slice t x (some p) (some q) none) (hx : ev L x = some (.string (bs s))) (hp : ev L p = some (.int k a)) (hq : ev L q = some (.int k' b)) (hu : P.underlying t = some .string) (ha : a = (lo : Int)) (hb : b = (hi : Int)) (h1 : lo ≤ hi) (h : hi ≤ s.length) :
    Yd P n L o (.string (bs ((s.take hi).drop lo))) w := fun ac hac => by
  subst ha; subst hb
  have h1 := run_sliceStr (P := P) (w := w) (t := t) (s := s) (vl := some (.int k (lo : Int))) (vh := some (.int k' (hi : Int))) (lo := lo) (hi := hi) (mx := s.length) hu (by simp [Instr.sliceBounds, run_sliceBound, h, h1])
  unfold execOp
  simp [ho, hac.ev hx, hac.ev hp, hac.ev hq, Instr.sliceAt, Sem.run_bind, run_underlying hu w, h1]
theorem enc_bs {r : Int} (h : SgnP r) : Utf8.encode r = bs (encB r) := by
  have hr : 33 ≤ r ∧ r ≤ 65532 := by unfold SgnP at h; omega
  have hv : Utf8.valid r = true := by
    unfold SgnP at h
    unfold Utf8.valid
    simp only [Bool.or_eq_true, Bool.and_eq_true, decide_eq_true_eq]
    omega
  unfold Utf8.encode encB
  simp only [hv, if_true]
  obtain ⟨c, rfl⟩ : ∃ c : Nat, r = c := ⟨r.toNat, by omega⟩
  simp only [Int.toNat_natCast]
  by_cases h1 : c < 128
  · rw [if_pos h1, if_pos (show (c : Int) < 128 by omega)]; rfl
  · rw [if_neg h1, if_neg (show ¬ (c : Int) < 128 by omega)]
    by_cases h2 : c < 2048
    · rw [if_pos h2, if_pos (show (c : Int) < 2048 by omega)]
      simp only [bs, List.map_cons, List.map_nil]
      rw [show ((192 + (c : Int) / 64)).toNat = 192 + c / 64 by omega, show ((128 + (c : Int) % 64)).toNat = 128 + c % 64 by omega]
    · rw [if_neg h2, if_pos (show c < 65536 by omega), if_neg (show ¬ (c : Int) < 2048 by omega)]
      simp only [bs, List.map_cons, List.map_nil]
      rw [show ((224 + (c : Int) / 4096)).toNat = 224 + c / 4096 by omega, show ((128 + (c : Int) / 64 % 64)).toNat = 128 + c / 64 % 64 by omega, show ((128 + (c : Int) % 64)).toNat = 128 + c % 64 by omega]
theorem y_rstr {s d : TypeId} {x : Operand} {k : IntKind} {r : Int} (ho : o.op = .convert s d x) (hs : P.underlying s = some (.int k)) (hd : P.underlying d = some .string) (hx : ev L x = some (.int k r)) (h : SgnP r) : Yd P n L o (.string (bs (encB r))) w := fun a ha => by
  have h1 := enc_bs h
  unfold execOp
  simp [ho, ha.ev hx, convert, Sem.run_bind, run_underlying hs w, run_underlying hd w, Conv.intToString, h1]
end
/-- a piece has the rune of what it begins -/
theorem runeD_piece {s : List Int} (hB : Byt s) (h0 : 0 < s.length) : runeD (s.take (runeD s).2) = runeD s := by
  have hz := runeD_size s
  have hb0 := hB _ (nth_mem h0)
  have hn : ∀ k i, i < k → nth (s.take k) i = nth s i := fun k i hi => by simp [nth, List.getD, List.getElem?_take, hi]
  have hl : ∀ k, k ≤ s.length → (s.take k).length = k := fun k hk => by rw [List.length_take]; omega
  have hlen := hl (runeD s).2 (by omega)
  have h4 : (runeD s).2 = 1 ∨ (runeD s).2 = 2 ∨ (runeD s).2 = 3 ∨ (runeD s).2 = 4 := by omega
  rcases h4 with h4 | h4 | h4 | h4 <;> rw [h4] at hlen ⊢
  · have e0 := hn 1 0 (by omega)
    have h5 : runeD s = (if nth s 0 < 128 then nth s 0 else 65533, 1) := by
      revert h4; unfold runeD; simp only; (repeat' split) <;> (intro h4; first | rfl | (exfalso; simp only at h4; omega))
    rw [h5]; unfold runeD; simp only [e0, hlen]
    (repeat' split) <;> first | rfl | (exfalso; omega)
  · have e0 := hn 2 0 (by omega); have e1 := hn 2 1 (by omega)
    have h5 : (¬ nth s 0 < 128 ∧ 192 ≤ nth s 0 ∧ nth s 0 < 224 ∧ (1 < s.length ∧ 128 ≤ nth s 1 ∧ nth s 1 < 192) ∧ 128 ≤ (nth s 0 - 192) * 64 + (nth s 1 - 128)) ∧ runeD s = ((nth s 0 - 192) * 64 + (nth s 1 - 128), 2) := by
      revert h4; unfold runeD; simp only; (repeat' split) <;> (intro h4; first | (exfalso; simp only at h4; omega) | exact ⟨by omega, rfl⟩)
    rw [h5.2]; unfold runeD; simp only [e0, e1, hlen]
    rw [if_neg h5.1.1, if_pos ⟨by omega, by omega, by omega, by omega, by omega⟩, if_pos (by omega)]
  · have e0 := hn 3 0 (by omega); have e1 := hn 3 1 (by omega); have e2 := hn 3 2 (by omega)
    have h5 : (224 ≤ nth s 0 ∧ nth s 0 < 240 ∧ (1 < s.length ∧ 128 ≤ nth s 1 ∧ nth s 1 < 192) ∧ (2 < s.length ∧ 128 ≤ nth s 2 ∧ nth s 2 < 192) ∧ 2048 ≤ (nth s 0 - 224) * 4096 + (nth s 1 - 128) * 64 + (nth s 2 - 128) ∧ ¬ (55296 ≤ (nth s 0 - 224) * 4096 + (nth s 1 - 128) * 64 + (nth s 2 - 128) ∧ (nth s 0 - 224) * 4096 + (nth s 1 - 128) * 64 + (nth s 2 - 128) < 57344)) ∧ runeD s = ((nth s 0 - 224) * 4096 + (nth s 1 - 128) * 64 + (nth s 2 - 128), 3) := by
      revert h4; unfold runeD; simp only; (repeat' split) <;> (intro h4; first | (exfalso; simp only at h4; omega) | exact ⟨by omega, rfl⟩)
    rw [h5.2]; unfold runeD; simp only [e0, e1, e2, hlen]
    rw [if_neg (by omega), if_neg (by omega), if_pos ⟨by omega, by omega, ⟨by omega, by omega, by omega⟩, by omega, by omega, by omega⟩, if_pos ⟨by omega, by omega⟩]
  · have e0 := hn 4 0 (by omega); have e1 := hn 4 1 (by omega); have e2 := hn 4 2 (by omega); have e3 := hn 4 3 (by omega)
    have h5 : (240 ≤ nth s 0 ∧ nth s 0 < 248 ∧ (1 < s.length ∧ 128 ≤ nth s 1 ∧ nth s 1 < 192) ∧ (2 < s.length ∧ 128 ≤ nth s 2 ∧ nth s 2 < 192) ∧ (3 < s.length ∧ 128 ≤ nth s 3 ∧ nth s 3 < 192) ∧ 65536 ≤ (nth s 0 - 240) * 262144 + (nth s 1 - 128) * 4096 + (nth s 2 - 128) * 64 + (nth s 3 - 128) ∧ (nth s 0 - 240) * 262144 + (nth s 1 - 128) * 4096 + (nth s 2 - 128) * 64 + (nth s 3 - 128) ≤ 1114111) ∧ runeD s = ((nth s 0 - 240) * 262144 + (nth s 1 - 128) * 4096 + (nth s 2 - 128) * 64 + (nth s 3 - 128), 4) := by
      revert h4; unfold runeD; simp only; (repeat' split) <;> (intro h4; first | (exfalso; simp only at h4; omega) | exact ⟨by omega, rfl⟩)
    rw [h5.2]; unfold runeD; simp only [e0, e1, e2, e3, hlen]
    rw [if_neg (by omega), if_neg (by omega), if_neg (by omega), if_pos ⟨by omega, by omega, ⟨by omega, by omega, by omega⟩, ⟨by omega, by omega, by omega⟩, by omega, by omega, by omega⟩, if_pos ⟨by omega, by omega⟩]
/-- what a rune of so many bytes is -/
theorem runeD_form {s : List Int} (hB : Byt s) (h0 : 0 < s.length) : ((runeD s).2 = 1 → nth s 0 < 128 → (runeD s).1 = nth s 0) ∧ ((runeD s).2 = 2 → 1 < s.length ∧ 192 ≤ nth s 0 ∧ nth s 0 < 224 ∧ 128 ≤ nth s 1 ∧ nth s 1 < 192 ∧ (runeD s).1 = (nth s 0 - 192) * 64 + (nth s 1 - 128)) ∧
    ((runeD s).2 = 3 → 2 < s.length ∧ 224 ≤ nth s 0 ∧ nth s 0 < 240 ∧ 128 ≤ nth s 1 ∧ nth s 1 < 192 ∧ 128 ≤ nth s 2 ∧ nth s 2 < 192 ∧ (runeD s).1 = (nth s 0 - 224) * 4096 + (nth s 1 - 128) * 64 + (nth s 2 - 128)) ∧
    ((runeD s).2 = 4 → 3 < s.length ∧ 240 ≤ nth s 0 ∧ nth s 0 < 248 ∧ 128 ≤ nth s 1 ∧ nth s 1 < 192 ∧ 128 ≤ nth s 2 ∧ nth s 2 < 192 ∧ 128 ≤ nth s 3 ∧ nth s 3 < 192 ∧ (runeD s).1 = (nth s 0 - 240) * 262144 + (nth s 1 - 128) * 4096 + (nth s 2 - 128) * 64 + (nth s 3 - 128)) := by
  unfold runeD
  simp only
  (repeat' split) <;> (refine ⟨fun h1 h2 => ?_, fun h1 => ?_, fun h1 => ?_, fun h1 => ?_⟩ <;> first | rfl | (exfalso; revert h1; simp; done) | (exfalso; omega) | (refine ⟨?_, ?_, ?_, ?_, ?_, rfl⟩ <;> omega) | (refine ⟨?_, ?_, ?_, ?_, ?_, ?_, ?_, rfl⟩ <;> omega) | (refine ⟨?_, ?_, ?_, ?_, ?_, ?_, ?_, ?_, ?_, rfl⟩ <;> omega))
/-- a rune is told where its bytes are right -/
theorem okD_iff {s : List Int} (hB : Byt s) (h0 : 0 < s.length) : okD s = false ↔ ((runeD s).1 = 65533 ∧ (runeD s).2 = 1) := by
  have hb0 := hB _ (nth_mem h0)
  unfold okD
  rw [decide_eq_false_iff_not]
  unfold runeD
  simp only
  (repeat' split) <;> (constructor <;> first | (rintro ⟨h1, h2⟩; first | (exfalso; revert h2; simp; done) | (simp only at h1; omega)) | (intro h; first | exact ⟨rfl, rfl⟩ | (exact absurd (Or.inr (Nat.le_of_ble_eq_true rfl)) h) | (exfalso; omega)) | (rintro ⟨h1, h2⟩ h; rcases h with h | h; omega; (revert h; simp; done)))
end Go.Proofs.YtgkkbeomhkggjaaDoor
