/- Layer 2, plain: bits of numbers. -/
import Derived.Test.YtbnjbgcadkdljaaGreatDoorMO
import Derived.Test.YtbnjbgcadkdljaaGreatDoorMQ
set_option linter.unusedVariables false
set_option linter.unusedSimpArgs false
namespace Go.Proofs.YtbnjbgcadkdljaaGreatDoor
open Go Go.RowKit
theorem u64w (x : Int) : IntKind.u64.wrap x = x % 18446744073709551616 := by unfold IntKind.wrap; rfl
theorem tn64 (x : Int) : ((BitVec.ofInt 64 x).toNat : Int) = x % 18446744073709551616 := by
  rw [BitVec.toNat_ofInt]; show (((x % 18446744073709551616).toNat : Nat) : Int) = _; omega
theorem and127' : ∀ n : _root_.Fin 256, IntKind.u8.wrap (BitVec.ofInt IntKind.u8.bits (n.1 : Int) &&& BitVec.ofInt IntKind.u8.bits 127).toNat = ((n.1 % 128 : Nat) : Int) := by decide +kernel
theorem and127 {c : Int} (h : 0 ≤ c ∧ c ≤ 255) : IntKind.u8.wrap (BitVec.ofInt IntKind.u8.bits c &&& BitVec.ofInt IntKind.u8.bits 127).toNat = c % 128 := by
  have := and127' ⟨c.toNat, by omega⟩
  simp only at this
  rw [show ((c.toNat : Nat) : Int) = c by omega] at this
  rw [this]; omega
theorem pow7 (i : Nat) : (2 : Nat) ^ (7 * i) = 128 ^ i := by rw [Nat.pow_mul]
theorem cast128 (i : Nat) : ((128 ^ i : Nat) : Int) = (128 : Int) ^ i := by simp
theorem leb_fits {i : Nat} (hi : i ≤ 9) {c : Int} (hc : 0 ≤ c ∧ c < 128) (h9 : i = 9 → c ≤ 1) : 0 ≤ c * 128 ^ i ∧ c * 128 ^ i < 18446744073709551616 := by
  have : i = 0 ∨ i = 1 ∨ i = 2 ∨ i = 3 ∨ i = 4 ∨ i = 5 ∨ i = 6 ∨ i = 7 ∨ i = 8 ∨ i = 9 := by omega
  rcases this with rfl | rfl | rfl | rfl | rfl | rfl | rfl | rfl | rfl | rfl <;> simp only [Int.reducePow, Int.pow_zero] <;> omega
theorem leb_fits1 {i : Nat} (hi : i ≤ 9) {c : Int} (hc : 0 ≤ c ∧ c < 128) (h9 : i = 9 → c ≤ 1) : c * 128 ^ i + 128 ^ i ≤ 18446744073709551616 := by
  have : i = 0 ∨ i = 1 ∨ i = 2 ∨ i = 3 ∨ i = 4 ∨ i = 5 ∨ i = 6 ∨ i = 7 ∨ i = 8 ∨ i = 9 := by omega
  rcases this with rfl | rfl | rfl | rfl | rfl | rfl | rfl | rfl | rfl | rfl <;> simp only [Int.reducePow, Int.pow_zero] <;> omega
theorem shl_leb {i : Nat} (hi : i ≤ 9) {c : Int} (hc : 0 ≤ c ∧ c < 128) (h9 : i = 9 → c ≤ 1) : IntKind.u64.wrap (c * 2 ^ (min (7 * (i : Int)).toNat IntKind.u64.bits)) = c * 128 ^ i := by
  have hb : IntKind.u64.bits = 64 := rfl
  have e : min (7 * (i : Int)).toNat 64 = 7 * i := by omega
  rw [hb, e, show ((2 : Int) ^ (7 * i)) = ((2 ^ (7 * i) : Nat) : Int) from by simp, pow7, cast128]
  have := leb_fits hi hc h9
  rw [u64w]; omega
theorem or_leb {i : Nat} (hi : i ≤ 9) {u c : Int} (hu : 0 ≤ u ∧ u < 128 ^ i) (hc : 0 ≤ c ∧ c < 128) (h9 : i = 9 → c ≤ 1) : IntKind.u64.wrap (BitVec.ofInt IntKind.u64.bits u ||| BitVec.ofInt IntKind.u64.bits (c * 128 ^ i)).toNat = u + c * 128 ^ i := by
  have hb : IntKind.u64.bits = 64 := rfl
  have hf := leb_fits hi hc h9
  have hf1 := leb_fits1 hi hc h9
  have h128 : (128 : Int) ^ i < 18446744073709551616 := by
    have := leb_fits hi (c := 1) (by decide) (fun _ => by decide); omega
  rw [hb, BitVec.toNat_or, u64w]
  obtain ⟨un, rfl⟩ : ∃ k : Nat, u = k := ⟨u.toNat, by omega⟩
  obtain ⟨cn, rfl⟩ : ∃ k : Nat, c = k := ⟨c.toNat, by omega⟩
  rw [← cast128] at hu hf hf1 h128 ⊢
  rw [← Int.natCast_mul] at hf hf1 ⊢
  have hN : 2 ^ (7 * i) * cn = cn * 128 ^ i := by rw [pow7, Nat.mul_comm]
  have hlt : un < 2 ^ (7 * i) := by rw [pow7]; omega
  have e1 : (BitVec.ofInt 64 (un : Int)).toNat = un := by have := tn64 (un : Int); omega
  have e2 : (BitVec.ofInt 64 ((cn * 128 ^ i : Nat) : Int)).toNat = 2 ^ (7 * i) * cn := by
    have := tn64 ((cn * 128 ^ i : Nat) : Int)
    rw [hN]; omega
  have e3 := Nat.two_pow_add_eq_or_of_lt hlt cn
  rw [hN] at e2 e3
  rw [e1, e2, Nat.or_comm, ← e3]
  omega
theorem unfold_bits {u : Int} (h : 0 ≤ u ∧ u < 18446744073709551616) :
    IntKind.i64.wrap (BitVec.ofInt IntKind.i64.bits (IntKind.i64.wrap (u.fdiv (2 ^ (min (1 : Int).toNat IntKind.u64.bits)))) ^^^ BitVec.ofInt IntKind.i64.bits (IntKind.i64.wrap (0 - IntKind.i64.wrap (IntKind.u64.wrap (BitVec.ofInt IntKind.u64.bits u &&& BitVec.ofInt IntKind.u64.bits 1).toNat)))).toNat = unfoldU u := by
  have e1 : (2 : Int) ^ (min (1 : Int).toNat IntKind.u64.bits) = 2 := by decide
  have hb : IntKind.u64.bits = 64 := rfl
  have hb' : IntKind.i64.bits = 64 := rfl
  have hand : (BitVec.ofInt 64 u &&& BitVec.ofInt 64 1).toNat = (u % 2).toNat := by
    rw [BitVec.toNat_and, show (BitVec.ofInt 64 1).toNat = 1 from rfl, Nat.and_one_is_mod]
    have := tn64 u; omega
  rw [e1, hb, hb', hand, Int.fdiv_eq_ediv_of_nonneg _ (by decide), u64w]
  have w1 : IntKind.i64.wrap (u / 2) = u / 2 := by rw [IntKind.wrap_i64]; omega
  unfold unfoldU
  by_cases hu : u % 2 = 0
  · rw [if_pos hu, hu]
    have e3 : IntKind.i64.wrap (0 - IntKind.i64.wrap ((((0 : Int).toNat : Nat) : Int) % 18446744073709551616)) = 0 := by decide
    rw [e3, w1, show BitVec.ofInt 64 (0 : Int) = 0#64 from by decide, BitVec.xor_zero, tn64, IntKind.wrap_i64]
    omega
  · have hu1 : u % 2 = 1 := by omega
    rw [if_neg hu, hu1]
    have e3 : IntKind.i64.wrap (0 - IntKind.i64.wrap ((((1 : Int).toNat : Nat) : Int) % 18446744073709551616)) = -1 := by decide
    rw [e3, w1, show BitVec.ofInt 64 (-1 : Int) = BitVec.allOnes 64 from by decide, BitVec.xor_allOnes, BitVec.toNat_not, IntKind.wrap_i64]
    have := tn64 (u / 2)
    omega
theorem lacc_step {l : List Int} {i : Nat} (k : Nat) (u : Int) (h : i < l.length) : lacc k u (l.drop i) = if (k = 9 ∧ 1 < nth l i) ∨ (0 < k ∧ nth l i = 0) then .error 13 else if nth l i < 128 then .ok (u + nth l i * 128 ^ k, k + 1) else lacc (k + 1) (u + (nth l i - 128) * 128 ^ k) (l.drop (i + 1)) := by
  rw [List.drop_eq_getElem_cons h, ← nth_lt h, lacc]
theorem lacc_end {l : List Int} {i : Nat} (k : Nat) (u : Int) (h : l.length ≤ i) : lacc k u (l.drop i) = .error 14 := by
  rw [List.drop_of_length_le h, lacc]
theorem lacc_bd {i : Nat} {u c : Int} (hu : 0 ≤ u ∧ u < 128 ^ i) (hc : 128 ≤ c ∧ c ≤ 255) : 0 ≤ u + (c - 128) * 128 ^ i ∧ u + (c - 128) * 128 ^ i < 128 ^ (i + 1) := by
  have h1 := pow128 i
  rw [Int.pow_succ]
  have h2 : 0 ≤ (c - 128) * 128 ^ i := Int.mul_nonneg (by omega) (by omega)
  have h3 : (c - 128) * 128 ^ i ≤ 127 * 128 ^ i := Int.mul_le_mul_of_nonneg_right (by omega) (by omega)
  omega
end Go.Proofs.YtbnjbgcadkdljaaGreatDoor
