/- Bits of unsigned numbers as BitVec 32; the complement. -/
import Derived.Test.YtbnjbgcadkdljaaGreatDoorMQ
import Derived.Test.YtbnjbgcadkdljaaGreatDoorK15
set_option linter.unusedVariables false
set_option linter.unusedSimpArgs false
namespace Go.Proofs.YtbnjbgcadkdljaaGreatDoor
open Go Go.RowKit
section
variable {P : Program} {n : Nat} {L : Fr} {o : Oper} {w : World}
theorem y_com {t : TypeId} {x : Operand} {k : IntKind} {p c : Int} (ho : o.op = .unOp .xor t x) (hx : ev L x = some (.int k p)) (hs : k.signed = false) (hc : k.wrap (BitVec.ofInt k.bits k.max ^^^ BitVec.ofInt k.bits p).toNat = c) : Yd P n L o (.int k c) w := fun a ha => by
  subst hc
  unfold execOp
  simp [ho, ha.ev hx, Op.unary, Op.intBits, hs]
end
theorem u32w (x : Int) : IntKind.u32.wrap x = x % 4294967296 := by unfold IntKind.wrap; rfl
theorem bvI (s : BitVec 32) : BitVec.ofInt 32 (s.toNat : Int) = s := by
  rw [BitVec.ofInt_natCast]; simp
theorem w32 (s : BitVec 32) : IntKind.u32.wrap (s.toNat : Int) = (s.toNat : Int) := by
  rw [u32w]; have := s.isLt; omega
theorem bx (s t : BitVec 32) : IntKind.u32.wrap (BitVec.ofInt IntKind.u32.bits (s.toNat : Int) ^^^ BitVec.ofInt IntKind.u32.bits (t.toNat : Int)).toNat = ((s ^^^ t).toNat : Int) := by
  show IntKind.u32.wrap (BitVec.ofInt 32 (s.toNat : Int) ^^^ BitVec.ofInt 32 (t.toNat : Int)).toNat = _
  rw [bvI, bvI]; exact w32 _
theorem bcom (s : BitVec 32) : IntKind.u32.wrap (BitVec.ofInt IntKind.u32.bits IntKind.u32.max ^^^ BitVec.ofInt IntKind.u32.bits (s.toNat : Int)).toNat = ((~~~ s).toNat : Int) := by
  show IntKind.u32.wrap (BitVec.ofInt 32 4294967295 ^^^ BitVec.ofInt 32 (s.toNat : Int)).toNat = _
  rw [bvI, show BitVec.ofInt 32 4294967295 = BitVec.allOnes 32 from by decide, BitVec.allOnes_xor]; exact w32 _
theorem bshr (s : BitVec 32) (k : Nat) (hk : k ≤ 32) : ((s.toNat : Int)).fdiv (2 ^ (min ((k : Int)).toNat IntKind.u32.bits)) = ((s >>> k).toNat : Int) := by
  have hb : IntKind.u32.bits = 32 := rfl
  rw [hb, Int.toNat_natCast, Nat.min_eq_left hk, Int.fdiv_eq_ediv_of_nonneg _ (by exact Int.pow_nonneg (by decide)), BitVec.toNat_ushiftRight, Nat.shiftRight_eq_div_pow]
  simp
theorem band15 (s : BitVec 32) : IntKind.u32.wrap (BitVec.ofInt IntKind.u32.bits (s.toNat : Int) &&& BitVec.ofInt IntKind.u32.bits 15).toNat = ((s &&& 15#32).toNat : Int) := by
  show IntKind.u32.wrap (BitVec.ofInt 32 (s.toNat : Int) &&& BitVec.ofInt 32 15).toNat = _
  rw [bvI, show BitVec.ofInt 32 15 = 15#32 from by decide]; exact w32 _
def cB (c : Int) : BitVec 32 := BitVec.ofNat 32 c.toNat
theorem bconv {c : Int} (h : 0 ≤ c ∧ c ≤ 255) : IntKind.u32.wrap c = ((cB c).toNat : Int) := by
  unfold cB
  rw [u32w, BitVec.toNat_ofNat]; omega
theorem and15_lt (s : BitVec 32) : (s &&& 15#32).toNat < 16 := by
  rw [BitVec.toNat_and]
  have : s.toNat &&& (15#32).toNat ≤ (15#32).toNat := Nat.and_le_right
  have h15 : (15#32).toNat = 15 := rfl
  omega
def T16 : List (BitVec 32) := [0, 274646895, 549293790, 820201905, 1098587580, 1361435347, 1640403810, 1905808397, 2197175160, 2460548119, 2722870694, 2987750089, 3280807620, 3553878443, 3811616794, 4084100981]
def tblI : List Int := [0, 274646895, 549293790, 820201905, 1098587580, 1361435347, 1640403810, 1905808397, 2197175160, 2460548119, 2722870694, 2987750089, 3280807620, 3553878443, 3811616794, 4084100981]
def tT (i : Nat) : BitVec 32 := T16.getD i 0
theorem tbl_get : ∀ i : _root_.Fin 16, tblI[i.1]? = some ((tT i.1).toNat : Int) := by decide +kernel
theorem tbl_at {i : Nat} (h : i < 16) : (vi .u32 tblI)[i]? = some (.int .u32 ((tT i).toNat : Int)) := by
  unfold vi
  rw [List.getElem?_map, tbl_get ⟨i, h⟩]; rfl
/-- four bits -/
def half (s : BitVec 32) : BitVec 32 := (s >>> 4) ^^^ tT (s &&& 15#32).toNat
def bstep (s : BitVec 32) (c : Int) : BitVec 32 := half (half (s ^^^ cB c))
def crcM (s : BitVec 32) (bs : List Int) : BitVec 32 := ~~~ (bs.foldl bstep (~~~ s))
theorem fold_step {bs : List Int} {i : Nat} (s : BitVec 32) (h : i < bs.length) : (bs.take (i + 1)).foldl bstep s = bstep ((bs.take i).foldl bstep s) (nth bs i) := by
  rw [take_succ_nth h, List.foldl_append]; rfl
/-- a sum's bytes -/
def tailB (s : BitVec 32) : List Int := [(s.toNat : Int) % 256, (s.toNat : Int) / 256 % 256, (s.toNat : Int) / 65536 % 256, (s.toNat : Int) / 16777216]
theorem tail_conv (s : BitVec 32) (k : Nat) (p : Int) (hp : (2 : Int) ^ (8 * k) = p) (hk : 8 * k ≤ 32) : IntKind.u8.wrap ((s >>> (8 * k)).toNat : Int) = (s.toNat : Int) / p % 256 := by
  rw [wrap8, BitVec.toNat_ushiftRight, Nat.shiftRight_eq_div_pow, ← hp]
  simp
end Go.Proofs.YtbnjbgcadkdljaaGreatDoor
