/- What each kind of operation yields. -/
import Derived.Test.YtkphmcaoioaglaaK1
set_option linter.unusedVariables false
set_option linter.unusedSimpArgs false
namespace Go.Proofs.Ytkphmcaoioaglaa
open Go Go.RowKit

section
variable {P : Program} {n : Nat} {L : Fr} {o : Oper} {w : World}
theorem y_mov {x : Operand} {v : Value} (ho : o.op = .move x) (hx : ev L x = some v) : Yd P n L o v w := fun a ha => by
  unfold execOp; simp only [ho, ha.ev hx]; rfl
theorem y_asg {x : Operand} {v : Value} (ho : o.op = .assign x) (hx : ev L x = some v) : Yd P n L o v w := fun a ha => by
  unfold execOp; simp only [ho, ha.ev hx]; rfl
theorem y_pick {c x y : Operand} {b : Bool} {v : Value} (ho : o.op = .pick c x y) (hc : ev L c = some (.bool b)) (hv : ev L (if b then x else y) = some v) : Yd P n L o v w := fun a ha => by
  have h1 := ha.ev hv
  unfold execOp; simp only [ho, ha.ev hc]
  cases b
  · simp only [Bool.false_eq_true, if_false] at h1
    simp [asBool, h1]
  · simp only [if_true] at h1
    simp [asBool, h1]
theorem eqGuard_int {op : BinOp} {t : TypeId} {x y : Operand} {k k' : IntKind} {a b : Int} : (eqGuard op t x y (.int k a) (.int k' b)).run P w = .ok () w := by
  cases op <;> rfl
theorem bin_int {op : BinOp} {t t' : TypeId} {x y : Operand} {k k' : IntKind} {p q : Int} {v : Value} (ho : o.op = .binOp op t x y t') (hx : ev L x = some (.int k p)) (hy : ev L y = some (.int k' q))
    (h : (binOp op t (.int k p) (.int k' q)).run P w = .ok v w) : Yd P n L o v w := fun a ha => by
  unfold execOp
  simp only [ho, ha.ev hx, ha.ev hy, Sem.run_bind, eqGuard_int, Result.andThen_ok, h, Sem.run_pure]
theorem y_add {t t' : TypeId} {x y : Operand} {k : IntKind} {p q c : Int} (ho : o.op = .binOp .add t x y t') (hx : ev L x = some (.int k p)) (hy : ev L y = some (.int k q)) (hc : k.wrap (p + q) = c) : Yd P n L o (.int k c) w := by
  subst hc; exact bin_int ho hx hy (by simp [binOp, Op.intArith])
theorem y_sub {t t' : TypeId} {x y : Operand} {k : IntKind} {p q c : Int} (ho : o.op = .binOp .sub t x y t') (hx : ev L x = some (.int k p)) (hy : ev L y = some (.int k q)) (hc : k.wrap (p - q) = c) : Yd P n L o (.int k c) w := by
  subst hc; exact bin_int ho hx hy (by simp [binOp, Op.intArith])
theorem y_mul {t t' : TypeId} {x y : Operand} {k : IntKind} {p q c : Int} (ho : o.op = .binOp .mul t x y t') (hx : ev L x = some (.int k p)) (hy : ev L y = some (.int k q)) (hc : k.wrap (p * q) = c) : Yd P n L o (.int k c) w := by
  subst hc; exact bin_int ho hx hy (by simp [binOp, Op.intArith])
theorem y_quo {t t' : TypeId} {x y : Operand} {k : IntKind} {p q c : Int} (ho : o.op = .binOp .quo t x y t') (hx : ev L x = some (.int k p)) (hy : ev L y = some (.int k q)) (hq : q ≠ 0) (hc : k.wrap (p.tdiv q) = c) : Yd P n L o (.int k c) w := by
  subst hc; exact bin_int ho hx hy (by simp [binOp, Op.intDiv, hq])
theorem y_rem {t t' : TypeId} {x y : Operand} {k : IntKind} {p q c : Int} (ho : o.op = .binOp .rem t x y t') (hx : ev L x = some (.int k p)) (hy : ev L y = some (.int k q)) (hq : q ≠ 0) (hc : p.tmod q = c) : Yd P n L o (.int k c) w := by
  subst hc; exact bin_int ho hx hy (by simp [binOp, Op.intDiv, hq])
theorem y_shl {t t' : TypeId} {x y : Operand} {k k' : IntKind} {p q c : Int} (ho : o.op = .binOp .shl t x y t') (hx : ev L x = some (.int k p)) (hy : ev L y = some (.int k' q)) (hq : 0 ≤ q) (hc : k.wrap (p * 2 ^ (min q.toNat k.bits)) = c) : Yd P n L o (.int k c) w := by
  subst hc; exact bin_int ho hx hy (by simp [binOp, Op.shift, Int.not_lt.2 hq])
theorem y_shr {t t' : TypeId} {x y : Operand} {k k' : IntKind} {p q c : Int} (ho : o.op = .binOp .shr t x y t') (hx : ev L x = some (.int k p)) (hy : ev L y = some (.int k' q)) (hq : 0 ≤ q) (hc : p.fdiv (2 ^ (min q.toNat k.bits)) = c) : Yd P n L o (.int k c) w := by
  subst hc; exact bin_int ho hx hy (by simp [binOp, Op.shift, Int.not_lt.2 hq])
theorem y_and {t t' : TypeId} {x y : Operand} {k : IntKind} {p q c : Int} (ho : o.op = .binOp .and t x y t') (hx : ev L x = some (.int k p)) (hy : ev L y = some (.int k q)) (hc : k.wrap (BitVec.ofInt k.bits p &&& BitVec.ofInt k.bits q).toNat = c) : Yd P n L o (.int k c) w := by
  subst hc; exact bin_int ho hx hy (by simp [binOp, Op.intBits])
theorem y_or {t t' : TypeId} {x y : Operand} {k : IntKind} {p q c : Int} (ho : o.op = .binOp .or t x y t') (hx : ev L x = some (.int k p)) (hy : ev L y = some (.int k q)) (hc : k.wrap (BitVec.ofInt k.bits p ||| BitVec.ofInt k.bits q).toNat = c) : Yd P n L o (.int k c) w := by
  subst hc; exact bin_int ho hx hy (by simp [binOp, Op.intBits])
theorem y_xor {t t' : TypeId} {x y : Operand} {k : IntKind} {p q c : Int} (ho : o.op = .binOp .xor t x y t') (hx : ev L x = some (.int k p)) (hy : ev L y = some (.int k q)) (hc : k.wrap (BitVec.ofInt k.bits p ^^^ BitVec.ofInt k.bits q).toNat = c) : Yd P n L o (.int k c) w := by
  subst hc; exact bin_int ho hx hy (by simp [binOp, Op.intBits])
theorem y_andnot {t t' : TypeId} {x y : Operand} {k : IntKind} {p q c : Int} (ho : o.op = .binOp .andNot t x y t') (hx : ev L x = some (.int k p)) (hy : ev L y = some (.int k q)) (hc : k.wrap (BitVec.ofInt k.bits p &&& ~~~BitVec.ofInt k.bits q).toNat = c) : Yd P n L o (.int k c) w := by
  subst hc; exact bin_int ho hx hy (by simp [binOp, Op.intBits])
theorem beq_dec {p q : Int} : (p == q) = decide (p = q) := by by_cases h : p = q <;> simp [h]
theorem y_eql {t t' : TypeId} {x y : Operand} {k : IntKind} {p q : Int} (ho : o.op = .binOp .eql t x y t') (hx : ev L x = some (.int k p)) (hy : ev L y = some (.int k q)) : Yd P n L o (.bool (decide (p = q))) w :=
  bin_int ho hx hy (by simp [binOp, Op.intCmp, beq_dec])
theorem y_neq {t t' : TypeId} {x y : Operand} {k : IntKind} {p q : Int} (ho : o.op = .binOp .neq t x y t') (hx : ev L x = some (.int k p)) (hy : ev L y = some (.int k q)) : Yd P n L o (.bool (decide (¬ p = q))) w :=
  bin_int ho hx hy (by simp [binOp, Op.intCmp, bne, beq_dec])
theorem y_lss {t t' : TypeId} {x y : Operand} {k : IntKind} {p q : Int} (ho : o.op = .binOp .lss t x y t') (hx : ev L x = some (.int k p)) (hy : ev L y = some (.int k q)) : Yd P n L o (.bool (decide (p < q))) w :=
  bin_int ho hx hy (by simp [binOp, Op.intCmp])
theorem y_leq {t t' : TypeId} {x y : Operand} {k : IntKind} {p q : Int} (ho : o.op = .binOp .leq t x y t') (hx : ev L x = some (.int k p)) (hy : ev L y = some (.int k q)) : Yd P n L o (.bool (decide (p ≤ q))) w :=
  bin_int ho hx hy (by simp [binOp, Op.intCmp])
theorem y_gtr {t t' : TypeId} {x y : Operand} {k : IntKind} {p q : Int} (ho : o.op = .binOp .gtr t x y t') (hx : ev L x = some (.int k p)) (hy : ev L y = some (.int k q)) : Yd P n L o (.bool (decide (p > q))) w :=
  bin_int ho hx hy (by simp [binOp, Op.intCmp])
theorem y_geq {t t' : TypeId} {x y : Operand} {k : IntKind} {p q : Int} (ho : o.op = .binOp .geq t x y t') (hx : ev L x = some (.int k p)) (hy : ev L y = some (.int k q)) : Yd P n L o (.bool (decide (p ≥ q))) w :=
  bin_int ho hx hy (by simp [binOp, Op.intCmp])
theorem y_not {t : TypeId} {x : Operand} {b : Bool} (ho : o.op = .unOp .not t x) (hx : ev L x = some (.bool b)) : Yd P n L o (.bool (!b)) w := fun a ha => by
  unfold execOp; simp only [ho, ha.ev hx, Op.unary, Sem.run_bind, Sem.run_pure, Result.andThen_ok]
theorem y_notd {t : TypeId} {x : Operand} {p : Prop} [Decidable p] (ho : o.op = .unOp .not t x) (hx : ev L x = some (.bool (decide p))) : Yd P n L o (.bool (decide (¬ p))) w := by
  have := y_not (P := P) (n := n) (w := w) ho hx
  rwa [← decide_not] at this
theorem y_neg {t : TypeId} {x : Operand} {k : IntKind} {p c : Int} (ho : o.op = .unOp .neg t x) (hx : ev L x = some (.int k p)) (hc : k.wrap (0 - p) = c) : Yd P n L o (.int k c) w := fun a ha => by
  subst hc
  unfold execOp; simp only [ho, ha.ev hx, Op.unary, Op.intArith, Sem.run_bind, Sem.run_pure, Result.andThen_ok]
theorem y_conv {s d : TypeId} {x : Operand} {k k' : IntKind} {ds : TypeDesc} {p c : Int} (ho : o.op = .convert s d x) (hs : P.underlying s = some ds) (hd : P.underlying d = some (.int k')) (hx : ev L x = some (.int k p)) (hc : k'.wrap p = c) : Yd P n L o (.int k' c) w := fun a ha => by
  subst hc
  unfold execOp
  simp only [ho, ha.ev hx, convert, Sem.run_bind, run_underlying hs w, run_underlying hd w, Result.andThen_ok, Conv.intToInt, Sem.run_pure]
theorem y_ext {x : Operand} {i : Nat} {vs : Array Value} {v : Value} (ho : o.op = .extract x i) (hx : ev L x = some (.tuple vs)) (hv : vs[i]? = some v) : Yd P n L o v w := fun a ha => by
  unfold execOp; simp only [ho, ha.ev hx, Instr.extract, hv, Sem.run_bind, Sem.run_pure, Result.andThen_ok]
/-- an address whose nil check passes -/
theorem y_nilck {x : Operand} {ad : Addr} (ho : o.op = .nilCheck x) (hx : ev L x = some (.pointer (some ad))) : Yd P n L o (.pointer (some ad)) w := fun a ha => by
  unfold execOp; simp only [ho, ha.ev hx, Sem.run_pure]
/-! builtins -/
def evl (L : Fr) : List Operand → List Value → Prop
  | [], [] => True
  | x :: xs, v :: vs => ev L x = some v ∧ evl L xs vs
  | _, _ => False
theorem evl_map {a : Act} (ha : Rep n L a) : ∀ {xs : List Operand} {vs : List Value}, evl L xs vs → xs.map a.eval = vs
  | [], [], _ => rfl
  | x :: xs, v :: vs, ⟨h1, h2⟩ => by rw [List.map_cons, ha.ev h1, evl_map ha h2]
  | [], _ :: _, h => h.elim
  | _ :: _, [], h => h.elim
theorem y_builtin {b : Builtin} {xs : List Operand} {ts : Array TypeId} {vs : List Value} {v : Value} (ho : o.op = .call { callee := .builtin b, args := xs.toArray, argTypes := ts }) (hx : evl L xs vs)
    (h : ∀ cs, (builtin b ts o.type cs vs.toArray).run P w = .ok (.value v) w) : Yd P n L o v w := fun a ha => by
  unfold execOp
  simp only [ho, resolve, List.map_toArray, evl_map ha hx, Sem.run_bind, Sem.run_pure, Result.andThen_ok, invoke, h]
theorem y_len {t e : TypeId} {x : Operand} {A : Option Addr} {m c : Nat} (ho : o.op = .call { callee := .builtin .len, args := #[x], argTypes := #[t] }) (ht : P.underlying t = some (.slice e)) (hx : ev L x = some (.slice A m c)) : Yd P n L o (.int .i64 (m : Int)) w :=
  y_builtin (xs := [x]) (vs := [.slice A m c]) ho ⟨hx, trivial⟩ fun cs => by simp [builtin, Builtin.len_, run_underlying ht w, goInt]
theorem y_lens {t : TypeId} {x : Operand} {s : ByteArray} (ho : o.op = .call { callee := .builtin .len, args := #[x], argTypes := #[t] }) (ht : P.underlying t = some .string) (hx : ev L x = some (.string s)) : Yd P n L o (.int .i64 (s.size : Int)) w :=
  y_builtin (xs := [x]) (vs := [.string s]) ho ⟨hx, trivial⟩ fun cs => by simp [builtin, Builtin.len_, run_underlying ht w, goInt]
theorem y_cap {t e : TypeId} {x : Operand} {A : Option Addr} {m c : Nat} (ho : o.op = .call { callee := .builtin .cap, args := #[x], argTypes := #[t] }) (ht : P.underlying t = some (.slice e)) (hx : ev L x = some (.slice A m c)) : Yd P n L o (.int .i64 (c : Int)) w :=
  y_builtin (xs := [x]) (vs := [.slice A m c]) ho ⟨hx, trivial⟩ fun cs => by simp [builtin, Builtin.cap_, run_underlying ht w, goInt]
theorem y_max {t t' : TypeId} {x y : Operand} {k : IntKind} {p q : Int} (ho : o.op = .call { callee := .builtin .max, args := #[x, y], argTypes := #[t, t'] }) (hx : ev L x = some (.int k p)) (hy : ev L y = some (.int k q)) : Yd P n L o (.int k (max p q)) w :=
  y_builtin (xs := [x, y]) (vs := [.int k p, .int k q]) ho ⟨hx, hy, trivial⟩ fun cs => by
    have : (if p < q then q else p) = max p q := by omega
    simp [builtin, Builtin.max_, Builtin.max2, this]
theorem y_min {t t' : TypeId} {x y : Operand} {k : IntKind} {p q : Int} (ho : o.op = .call { callee := .builtin .min, args := #[x, y], argTypes := #[t, t'] }) (hx : ev L x = some (.int k p)) (hy : ev L y = some (.int k q)) : Yd P n L o (.int k (min p q)) w :=
  y_builtin (xs := [x, y]) (vs := [.int k p, .int k q]) ho ⟨hx, hy, trivial⟩ fun cs => by
    have : (if q < p then q else p) = min p q := by omega
    simp [builtin, Builtin.min_, Builtin.min2, this]
end

/-! bounds -/
theorem wi {e : Int} (h : -9223372036854775808 ≤ e ∧ e ≤ 9223372036854775807) : IntKind.i64.wrap e = e := IntWalk.i64_in _ h
theorem wu {k : IntKind} {e m : Int} (hk : k.signed = false) (hm : (2 ^ k.bits : Int) = m) (h : 0 ≤ e ∧ e < m) : k.wrap e = e := by
  unfold IntKind.wrap
  rw [hk, hm]
  simp only [Bool.false_and, Bool.false_eq_true, if_false]
  exact Int.emod_eq_of_lt h.1 h.2
theorem wu64 {e : Int} (h : 0 ≤ e ∧ e < 18446744073709551616) : IntKind.u64.wrap e = e := wu rfl (by decide) h
theorem wu8 {e : Int} (h : 0 ≤ e ∧ e < 256) : IntKind.u8.wrap e = e := wu rfl (by decide) h
theorem wu16 {e : Int} (h : 0 ≤ e ∧ e < 65536) : IntKind.u16.wrap e = e := wu rfl (by decide) h
theorem wu32 {e : Int} (h : 0 ≤ e ∧ e < 4294967296) : IntKind.u32.wrap e = e := wu rfl (by decide) h
theorem wi32 {e : Int} (h : -2147483648 ≤ e ∧ e < 2147483648) : IntKind.i32.wrap e = e := by
  unfold IntKind.wrap
  have h1 : (2 ^ IntKind.i32.bits : Int) = 4294967296 := by decide
  have h2 : (2 ^ (IntKind.i32.bits - 1) : Int) = 2147483648 := by decide
  have h3 : IntKind.i32.signed = true := rfl
  rw [h1, h2, h3]
  simp only [Bool.true_and, decide_eq_true_eq]
  split <;> omega
theorem tdn {p q c : Int} (hp : 0 ≤ p) (hc : p / q = c) : p.tdiv q = c := by rw [Int.tdiv_eq_ediv_of_nonneg hp]; exact hc
theorem tmn {p q c : Int} (hp : 0 ≤ p) (hc : p % q = c) : p.tmod q = c := by rw [Int.tmod_eq_emod_of_nonneg hp]; exact hc
end Go.Proofs.Ytkphmcaoioaglaa
