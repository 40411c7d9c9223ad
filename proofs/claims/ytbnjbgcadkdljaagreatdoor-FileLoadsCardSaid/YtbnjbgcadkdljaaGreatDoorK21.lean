/- The document's check sum, bit by bit. -/
import Derived.Test.YtbnjbgcadkdljaaGreatDoorK18
set_option linter.unusedVariables false
set_option linter.unusedSimpArgs false
namespace Go.Proofs.YtbnjbgcadkdljaaGreatDoor
open Go Go.RowKit
def rP : BitVec 32 := 2197175160#32
def sel (s : BitVec 32) : BitVec 32 := if s.getLsbD 0 = true then rP else 0#32
/-- one bit's step -/
def rbit (s : BitVec 32) : BitVec 32 := (s >>> 1) ^^^ sel s
theorem sel_xor (a b : BitVec 32) : sel (a ^^^ b) = sel a ^^^ sel b := by
  unfold sel
  rw [BitVec.getLsbD_xor]
  cases a.getLsbD 0 <;> cases b.getLsbD 0 <;> simp
theorem rbit_xor (a b : BitVec 32) : rbit (a ^^^ b) = rbit a ^^^ rbit b := by
  unfold rbit
  rw [sel_xor, BitVec.ushiftRight_xor_distrib]
  ac_rfl
theorem rbit_even {a : BitVec 32} (h : a.getLsbD 0 = false) : rbit a = a >>> 1 := by
  unfold rbit sel
  rw [h]; simp
theorem rbit4_xor (a b : BitVec 32) : rbit (rbit (rbit (rbit (a ^^^ b)))) = rbit (rbit (rbit (rbit a))) ^^^ rbit (rbit (rbit (rbit b))) := by rw [rbit_xor, rbit_xor, rbit_xor, rbit_xor]
theorem low4 : ∀ i : _root_.Fin 16, rbit (rbit (rbit (rbit (BitVec.ofNat 32 i.1)))) = tT i.1 := by decide +kernel
theorem high4 (s : BitVec 32) : rbit (rbit (rbit (rbit (s &&& ~~~ 15#32)))) = s >>> 4 := by
  have hb : ∀ k, k < 4 → (s &&& ~~~ 15#32).getLsbD k = false := fun k hk => by
    rw [BitVec.getLsbD_and, BitVec.getLsbD_not]
    have : (15#32).getLsbD k = true := by
      match k, hk with
      | 0, _ | 1, _ | 2, _ | 3, _ => rfl
    rw [this]; simp
  generalize hx : s &&& ~~~ 15#32 = x at hb ⊢
  have h0 := hb 0 (by omega)
  rw [rbit_even h0]
  rw [rbit_even (a := x >>> 1) (by rw [BitVec.getLsbD_ushiftRight]; exact hb 1 (by omega))]
  rw [rbit_even (a := x >>> 1 >>> 1) (by rw [BitVec.getLsbD_ushiftRight, BitVec.getLsbD_ushiftRight]; exact hb 2 (by omega))]
  rw [rbit_even (a := x >>> 1 >>> 1 >>> 1) (by rw [BitVec.getLsbD_ushiftRight, BitVec.getLsbD_ushiftRight, BitVec.getLsbD_ushiftRight]; exact hb 3 (by omega))]
  subst hx
  apply BitVec.eq_of_getLsbD_eq
  intro i hi
  simp only [BitVec.getLsbD_ushiftRight, BitVec.getLsbD_and, BitVec.getLsbD_not]
  have h15 : ∀ j, (15#32).getLsbD (j + 4) = false := fun j => by
    rw [BitVec.getLsbD_ofNat]
    have : Nat.testBit 15 (j + 4) = false := Nat.testBit_lt_two_pow (Nat.lt_of_lt_of_le (by decide : 15 < 2 ^ 4) (Nat.pow_le_pow_right (by decide) (by omega)))
    rw [this]; simp
  rw [show 1 + (1 + (1 + (1 + i))) = i + 4 by omega, h15, Nat.add_comm 4 i]
  by_cases h : i + 4 < 32
  · simp [h]
  · rw [BitVec.getLsbD_of_ge s (i + 4) (by omega)]; simp
theorem rbit4 (s : BitVec 32) : rbit (rbit (rbit (rbit s))) = half s := by
  have hs : s = (s &&& ~~~ 15#32) ^^^ (s &&& 15#32) := by
    apply BitVec.eq_of_getLsbD_eq
    intro i hi
    simp only [BitVec.getLsbD_xor, BitVec.getLsbD_and, BitVec.getLsbD_not, hi, decide_true, Bool.true_and]
    cases s.getLsbD i <;> cases (15#32).getLsbD i <;> rfl
  have hl : rbit (rbit (rbit (rbit (s &&& 15#32)))) = tT (s &&& 15#32).toNat := by
    have h1 := low4 ⟨(s &&& 15#32).toNat, and15_lt s⟩
    rwa [BitVec.ofNat_toNat, BitVec.setWidth_eq] at h1
  conv => lhs; rw [hs]
  rw [rbit4_xor, high4, hl]; rfl
/-- eight bits' steps -/
theorem rbit8 (s : BitVec 32) (c : Int) : rbit (rbit (rbit (rbit (rbit (rbit (rbit (rbit (s ^^^ cB c)))))))) = bstep s c := by
  rw [rbit4, rbit4]; rfl
theorem rbit_odd {a : BitVec 32} (h : a.getLsbD 0 = true) : rbit a = (a >>> 1) ^^^ rP := by
  unfold rbit sel
  rw [if_pos h]
def rbn : Nat → BitVec 32 → BitVec 32
  | 0, s => s
  | k + 1, s => rbit (rbn k s)
theorem rbn8 (s : BitVec 32) (c : Int) : rbn 8 (s ^^^ cB c) = bstep s c := rbit8 s c
theorem bxm (s : BitVec 32) : IntKind.u32.wrap (BitVec.ofInt IntKind.u32.bits (s.toNat : Int) ^^^ BitVec.ofInt IntKind.u32.bits 4294967295).toNat = ((~~~ s).toNat : Int) := by
  rw [BitVec.xor_comm]; exact bcom s
theorem odd_iff (s : BitVec 32) : (s.toNat : Int) % 2 = 1 ↔ s.getLsbD 0 = true := by
  rw [← BitVec.testBit_toNat, Nat.testBit_zero]
  simp only [decide_eq_true_eq]
  omega
theorem half_toNat (s : BitVec 32) : (s.toNat : Int) / 2 = ((s >>> 1).toNat : Int) := by
  rw [BitVec.toNat_ushiftRight, Nat.shiftRight_eq_div_pow]; omega
end Go.Proofs.YtbnjbgcadkdljaaGreatDoor
