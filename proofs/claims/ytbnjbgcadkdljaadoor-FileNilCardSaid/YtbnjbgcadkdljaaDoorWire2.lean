/- Layer 12: the reference's Put; Get. -/
import Derived.Test.YtbnjbgcadkdljaaDoorWire1
set_option linter.unusedVariables false
set_option linter.unusedSimpArgs false
namespace Go.Proofs.YtbnjbgcadkdljaaDoor
open Go Go.RowKit
theorem kfwire2_2 : (Tryd.prog.info? 5).map (fun i => (i.size, i.zero.map Value.cells)) = some (1, some (List.toArray [(.int .u8 0)])) := by kernel_rfl
theorem kfwire2_3 : (Tryd.prog.info? 5).map (fun i => (i.zero.map (·.cells.toList), i.size, i.bytes)) = some (some [(.int .u8 0)], 1, 1) := by kernel_rfl
theorem kfwire2_4 : elB Tryd.prog 24 1 = true := by kernel_rfl
theorem kfwire2_5 : oneB Tryd.prog 5 = true := by kernel_rfl
/-- bytes as a number -/
def un : List Int → Int
  | [] => 0
  | z :: l => z + 256 * un l
theorem un_app : ∀ (a : List Int) (z : Int), un (a ++ [z]) = un a + 256 ^ a.length * z
  | [], z => by simp [un]
  | x :: a, z => by
    simp only [List.cons_append, un, List.length_cons]
    rw [un_app a z, Int.pow_succ, Int.mul_add, Int.mul_comm _ 256, Int.mul_assoc]
    omega
theorem un_bd : ∀ (a : List Int), Byt a → 0 ≤ un a ∧ un a < 256 ^ a.length
  | [], _ => by simp [un]
  | x :: a, h => by
    have ih := un_bd a (fun z hz => h z (List.mem_cons_of_mem _ hz))
    have hx := h x List.mem_cons_self
    simp only [un, List.length_cons, Int.pow_succ]
    omega
theorem un_dgs (u : Int) : ∀ n : Nat, un (dgs u n) = u % 256 ^ n
  | 0 => by simp [dgs, un, Int.emod_one]
  | n + 1 => by
    have hp := pow_pos256 n
    rw [dgs_succ, un_app, un_dgs u n, dgs_len, Int.pow_succ]
    unfold dg
    have e1 := Int.emod_add_mul_ediv u (256 ^ n)
    have e2 := Int.emod_add_mul_ediv (u / 256 ^ n) 256
    have e3 : u = (u % 256 ^ n + 256 ^ n * (u / 256 ^ n % 256)) + 256 ^ n * 256 * (u / 256 ^ n / 256) := by
      have : 256 ^ n * (u / 256 ^ n) = 256 ^ n * (u / 256 ^ n % 256) + 256 ^ n * 256 * (u / 256 ^ n / 256) := by
        rw [Int.mul_assoc, ← Int.mul_add]; congr 1; omega
      omega
    have b1 := Int.emod_nonneg u (by omega : (256 : Int) ^ n ≠ 0)
    have b2 := Int.emod_lt_of_pos u hp
    have b3 : 0 ≤ u / 256 ^ n % 256 := by omega
    have b4 : u / 256 ^ n % 256 ≤ 255 := by omega
    have b5 : 256 ^ n * (u / 256 ^ n % 256) ≤ 256 ^ n * 255 := Int.mul_le_mul_of_nonneg_left b4 (by omega)
    have b6 : 0 ≤ 256 ^ n * (u / 256 ^ n % 256) := Int.mul_nonneg (by omega) b3
    have key : u % (256 ^ n * 256) = u % 256 ^ n + 256 ^ n * (u / 256 ^ n % 256) := by
      have br : 0 ≤ u % 256 ^ n + 256 ^ n * (u / 256 ^ n % 256) ∧ u % 256 ^ n + 256 ^ n * (u / 256 ^ n % 256) < 256 ^ n * 256 := by omega
      generalize u / 256 ^ n / 256 = q at e3
      generalize u % 256 ^ n + 256 ^ n * (u / 256 ^ n % 256) = r at *
      rw [e3, Int.add_mul_emod_self_left]
      exact Int.emod_eq_of_lt br.1 br.2
    rw [key]
theorem un_div (z : Int) (l : List Int) (hz : 0 ≤ z ∧ z < 256) : un (z :: l) / 256 = un l ∧ un (z :: l) % 256 = z := by simp only [un]; omega
theorem dgs_un : ∀ (l : List Int), Byt l → dgs (un l) l.length = l
  | [], _ => rfl
  | z :: l, h => by
    have hz := h z List.mem_cons_self
    have ih := dgs_un l (fun x hx => h x (List.mem_cons_of_mem _ hx))
    obtain ⟨e1, e2⟩ := un_div z l hz
    unfold dgs at *
    rw [List.length_cons, List.range_succ_eq_map, List.map_cons, List.map_map]
    have h0 : dg (un (z :: l)) 0 = z := by unfold dg; simpa using e2
    rw [h0]
    congr 1
    refine Eq.trans (List.map_congr_left fun j _ => ?_) ih
    show dg (un (z :: l)) (j + 1) = dg (un l) j
    unfold dg
    rw [Int.pow_succ, Int.mul_comm, ← Int.ediv_ediv_of_nonneg (by decide), e1]
theorem Byt.take {l : List Int} (h : Byt l) (i : Nat) : Byt (l.take i) := fun z hz => h z (List.mem_of_mem_take hz)
theorem Byt.drop {l : List Int} (h : Byt l) (i : Nat) : Byt (l.drop i) := fun z hz => h z (List.mem_of_mem_drop hz)
theorem Byt.at_ {l : List Int} (h : Byt l) {i : Nat} (hi : i < l.length) : 0 ≤ nth l i ∧ nth l i < 256 := h _ (nth_mem hi)
theorem un_take {l : List Int} {i : Nat} (hi : i < l.length) : un (l.take (i + 1)) = un (l.take i) + 256 ^ i * nth l i := by
  rw [take_succ_nth hi, un_app, List.length_take, Nat.min_eq_left (by omega)]
theorem un_drop {l : List Int} {i : Nat} (hi : i < l.length) : un (l.drop i) = un (l.drop (i + 1)) * 256 + nth l i := by
  rw [List.drop_eq_getElem_cons hi, ← nth_lt hi]
  simp only [un]; omega
/-- what lies in a row of bytes -/
def getS (zs : List Int) (a n : Int) : Int × Int × Int := if n < 1 ∨ 8 < n ∨ a < 0 ∨ (zs.length : Int) < a then (0, 0, 11) else if (zs.length : Int) - a < n then (0, 0, 14) else (un ((zs.drop a.toNat).take n.toNat), a + n, 0)
theorem getS_arg {zs : List Int} {a n : Int} (h : n < 1 ∨ 8 < n ∨ a < 0 ∨ (zs.length : Int) < a) : getS zs a n = (0, 0, 11) := by unfold getS; rw [if_pos h]
theorem getS_short {zs : List Int} {a n : Int} (h : ¬ (n < 1 ∨ 8 < n ∨ a < 0 ∨ (zs.length : Int) < a)) (h2 : (zs.length : Int) - a < n) : getS zs a n = (0, 0, 14) := by unfold getS; rw [if_neg h, if_pos h2]
theorem getS_ok {zs : List Int} {a k : Nat} (h1 : 1 ≤ k) (h8 : k ≤ 8) (h2 : a + k ≤ zs.length) : getS zs (a : Int) (k : Int) = (un ((zs.drop a).take k), (a : Int) + k, 0) := by
  unfold getS; rw [if_neg (by omega), if_neg (by omega)]; simp
def GetR (zs : List Int) (a n : Int) (w : World) (v : Value) (w' : World) : Prop := v = .tuple #[.int .u64 (getS zs a n).1, .int .i64 (getS zs a n).2.1, .int .i64 (getS zs a n).2.2] ∧ Below w.heap.size w w'
theorem sh8 {i : Nat} (hi : i < 8) : min (8 * (i : Int)).toNat IntKind.u64.bits = 8 * i := by
  have : IntKind.u64.bits = 64 := rfl
  omega
theorem e256 (i : Nat) : (256 : Int) ^ i = ((2 ^ (8 * i) : Nat) : Int) := by rw [Nat.pow_mul]; simp
theorem pow56 {i : Nat} (hi : i < 8) : 2 ^ (8 * i) ≤ 72057594037927936 := by
  have : 2 ^ (8 * i) ≤ 2 ^ 56 := Nat.pow_le_pow_right (by decide) (by omega)
  have : (2 : Nat) ^ 56 = 72057594037927936 := by decide
  omega
theorem pow_le7 {m : Nat} (h : m ≤ 7) : (256 : Int) ^ m ≤ 72057594037927936 := by rw [e256]; have := pow56 (i := m) (by omega); omega
theorem shl_at {z : Int} {i : Nat} (hi : i < 8) (hz : 0 ≤ z ∧ z < 256) : IntKind.u64.wrap (z * 2 ^ (min (8 * (i : Int)).toNat IntKind.u64.bits)) = 256 ^ i * z := by
  have h1 := pow56 hi
  have h2 : (2 : Int) ^ (8 * i) = 256 ^ i := by rw [e256]; simp
  rw [sh8 hi, h2, Int.mul_comm]
  have h3 : (256 : Int) ^ i ≤ 72057594037927936 := by rw [e256]; omega
  have h4 := pow_pos256 i
  have h5 : 256 ^ i * z ≤ 256 ^ i * 255 := Int.mul_le_mul_of_nonneg_left (by omega) (by omega)
  exact wu64 ⟨Int.mul_nonneg (by omega) hz.1, by omega⟩
/-- or of a number below 256^i and a byte at place i -/
theorem or_at {u z : Int} {i : Nat} (hi : i < 8) (hu : 0 ≤ u ∧ u < 256 ^ i) (hz : 0 ≤ z ∧ z < 256) : IntKind.u64.wrap ((BitVec.ofInt IntKind.u64.bits u ||| BitVec.ofInt IntKind.u64.bits (256 ^ i * z)).toNat) = u + 256 ^ i * z := by
  have hb : IntKind.u64.bits = 64 := rfl
  obtain ⟨a, rfl⟩ : ∃ a : Nat, u = (a : Int) := ⟨u.toNat, by omega⟩
  obtain ⟨b, rfl⟩ : ∃ b : Nat, z = (b : Int) := ⟨z.toNat, by omega⟩
  have ha : a < 2 ^ (8 * i) := by have := hu.2; rw [e256] at this; omega
  have hb' : b < 256 := by omega
  have hle := pow56 hi
  have hlt : 2 ^ (8 * i) * b + a < 2 ^ 64 := by
    have h1 : 2 ^ (8 * i) * b ≤ 2 ^ (8 * i) * 255 := Nat.mul_le_mul_left _ (by omega)
    have : (2 : Nat) ^ 64 = 18446744073709551616 := by decide
    omega
  have h2 : ((256 : Int) ^ i * (b : Int)) = ((2 ^ (8 * i) * b : Nat) : Int) := by rw [e256, Int.natCast_mul]
  rw [h2, hb]
  have hor : ((BitVec.ofInt 64 (a : Int) ||| BitVec.ofInt 64 ((2 ^ (8 * i) * b : Nat) : Int)).toNat) = 2 ^ (8 * i) * b + a := by
    rw [BitVec.toNat_or, BitVec.ofInt_natCast, BitVec.ofInt_natCast, BitVec.toNat_ofNat, BitVec.toNat_ofNat, Nat.mod_eq_of_lt (by omega : a < 2 ^ 64), Nat.mod_eq_of_lt (by omega : 2 ^ (8 * i) * b < 2 ^ 64), Nat.or_comm, ← Nat.two_pow_add_eq_or_of_lt ha]
  rw [hor, wu64 (by have : (2 : Nat) ^ 64 = 18446744073709551616 := by decide
                    omega)]
  omega

end Go.Proofs.YtbnjbgcadkdljaaDoor
