/- Contracts of package ray. -/
import Derived.Test.YtjhbomgfjffmdaaWords
import Derived.Test.YtjhbomgfjffmdaaPlain23
set_option linter.unusedVariables false
set_option linter.unusedSimpArgs false
namespace Go.Proofs.Ytjhbomgfjffmdaa
open Go.RowKit
/-- the way along, and over -/
def rayA (a b : Cl) : Cl := if steep a b then ⟨0, sg (b.y - a.y)⟩ else ⟨sg (b.x - a.x), 0⟩
def rayO (a b : Cl) : Cl := if steep a b then ⟨sg (b.x - a.x), 0⟩ else ⟨0, sg (b.y - a.y)⟩
theorem rayAt_eq (a b : Cl) (i : Int) : rayAt a b i = ⟨a.x + i * (rayA a b).x + rayK (rayN a b) (rayM a b) i * (rayO a b).x, a.y + i * (rayA a b).y + rayK (rayN a b) (rayM a b) i * (rayO a b).y⟩ := by
  unfold rayAt rayA rayO
  by_cases h : steep a b
  · simp only [if_pos h, Int.mul_zero, Int.add_zero, Int.mul_comm (sg _)]
  · simp only [if_neg h, Int.mul_zero, Int.add_zero, Int.mul_comm (sg _)]
def ccells (l : List Cl) : List Value := l.flatMap fun r => [.int .i64 r.x, .int .i64 r.y]
theorem ccells_snoc (l : List Cl) (r : Cl) : ccells (l ++ [r]) = ccells l ++ [.int .i64 r.x, .int .i64 r.y] := by simp [ccells]
theorem cell_info : (Try.prog.info? 23).map (fun i => (i.zero, i.size, i.bytes)) = some (some (.agg #[.int .i64 0, .int .i64 0]), 2, 16) := by kernel_rfl
theorem sg_bd (n : Int) : -1 ≤ sg n ∧ sg n ≤ 1 := by rcases sg_or n with h | h <;> omega
theorem mul_unit {k s K : Int} (h0 : 0 ≤ k) (h1 : k ≤ K) (hs : s = -1 ∨ s = 0 ∨ s = 1) : -K ≤ k * s ∧ k * s ≤ K := by
  rcases hs with h | h | h <;> subst h <;> omega

theorem can_any (x y : Int) (w : World) :
    Calls Try.prog 44 #[.agg #[.int .i64 x, .int .i64 y]] w fun r w' => r = .returned (.bool (canB x y)) ∧ Below w.heap.size w w' := by
  go_enter Try.func44, Try.ntmps44
  go_wp2
  all_goals
    go_ret
    refine ⟨ret_bool ?_, (by repeat (first | with_reducible exact Below.refl _ _ | with_reducible assumption | with_reducible refine below_alloc ?_ _ | with_reducible refine below_draw ?_ | ((with_reducible apply bset); (focus (first | exact Nat.le_refl _ | (simp; done) | omega | (simp; omega)))) | ((with_reducible apply bcall); assumption; (focus (first | exact Nat.le_refl _ | (simp; done) | omega | (simp; omega))))))⟩
    rw [eq_comm]
    simp only [canB, canP]
    first | (apply decide_eq_false; omega) | (rw [decide_eq_decide]; omega) | (rw [Bool.eq_iff_iff]; simp [*]; done) | (rw [Bool.eq_iff_iff]; simp [*]; omega)

theorem sign_any (n : Int) (w : World) (h0 : -4611686018427387904 ≤ n) (h1 : n ≤ 4611686018427387904) :
    Calls Try.prog 62 #[.int .i64 n] w fun r w' => r = .returned (.tuple #[.int .i64 (sg n), .int .i64 (ab n)]) ∧ w = w' := by
  by_cases h : n < 0
  · have e1 : sg n = -1 := if_pos h
    have e2 : ab n = -n := if_pos h
    rw [e1, e2]
    clear e1 e2
    go_enter Try.func62, Try.ntmps62
    go_wp2
    go_ret2
    exact ⟨rfl, rfl⟩
  · have e1 : sg n = 1 := if_neg h
    have e2 : ab n = n := if_neg h
    rw [e1, e2]
    clear e1 e2
    go_enter Try.func62, Try.ntmps62
    go_wp2
    go_ret2
    exact ⟨rfl, rfl⟩

set_option maxHeartbeats 1000000 in
theorem of_any (ax ay bx by_ : Int) (w : World) (ha : canP ⟨ax, ay⟩) (hb : canP ⟨bx, by_⟩) :
    Calls Try.prog 41 #[.agg #[.int .i64 ax, .int .i64 ay], .agg #[.int .i64 bx, .int .i64 by_]] w fun r w' => r = .returned (.agg #[.int .i64 (rayN ⟨ax, ay⟩ ⟨bx, by_⟩), .int .i64 (rayM ⟨ax, ay⟩ ⟨bx, by_⟩), .int .i64 (rayA ⟨ax, ay⟩ ⟨bx, by_⟩).x, .int .i64 (rayA ⟨ax, ay⟩ ⟨bx, by_⟩).y, .int .i64 (rayO ⟨ax, ay⟩ ⟨bx, by_⟩).x, .int .i64 (rayO ⟨ax, ay⟩ ⟨bx, by_⟩).y]) ∧ Below w.heap.size w w' := by
  have ha' := ha
  have hb' := hb
  obtain ⟨_, _, _, _⟩ := ha'
  obtain ⟨_, _, _, _⟩ := hb'
  simp only at *
  by_cases h : ab (bx - ax) < ab (by_ - ay)
  · have e1 : rayN ⟨ax, ay⟩ ⟨bx, by_⟩ = ab (by_ - ay) := if_pos h
    have e2 : rayM ⟨ax, ay⟩ ⟨bx, by_⟩ = ab (bx - ax) := if_pos h
    have e3 : rayA ⟨ax, ay⟩ ⟨bx, by_⟩ = ⟨0, sg (by_ - ay)⟩ := if_pos h
    have e4 : rayO ⟨ax, ay⟩ ⟨bx, by_⟩ = ⟨sg (bx - ax), 0⟩ := if_pos h
    rw [e1, e2, e3, e4]
    clear e1 e2 e3 e4 ha hb
    go_enter Try.func41, Try.ntmps41
    go_wp2_with (go_at_call 62; refine (sign_any _ _ (by omega) (by omega)).mono ?_; rintro e w' ⟨rfl, rfl⟩)
    exact bodyPost_ret (v := .agg #[.int .i64 (ab (by_ - ay)), .int .i64 (ab (bx - ax)), .int .i64 0, .int .i64 (sg (by_ - ay)), .int .i64 (sg (bx - ax)), .int .i64 0]) (by simp [results, Try.results41, go_sem, *]) rfl ⟨rfl, (by repeat (first | with_reducible exact Below.refl _ _ | with_reducible assumption | with_reducible refine below_alloc ?_ _ | with_reducible refine below_draw ?_ | ((with_reducible apply bset); (focus (first | exact Nat.le_refl _ | (simp; done) | omega | (simp; omega)))) | ((with_reducible apply bcall); assumption; (focus (first | exact Nat.le_refl _ | (simp; done) | omega | (simp; omega))))))⟩
  · have e1 : rayN ⟨ax, ay⟩ ⟨bx, by_⟩ = ab (bx - ax) := if_neg h
    have e2 : rayM ⟨ax, ay⟩ ⟨bx, by_⟩ = ab (by_ - ay) := if_neg h
    have e3 : rayA ⟨ax, ay⟩ ⟨bx, by_⟩ = ⟨sg (bx - ax), 0⟩ := if_neg h
    have e4 : rayO ⟨ax, ay⟩ ⟨bx, by_⟩ = ⟨0, sg (by_ - ay)⟩ := if_neg h
    rw [e1, e2, e3, e4]
    clear e1 e2 e3 e4 ha hb
    go_enter Try.func41, Try.ntmps41
    go_wp2_with (go_at_call 62; refine (sign_any _ _ (by omega) (by omega)).mono ?_; rintro e w' ⟨rfl, rfl⟩)
    exact bodyPost_ret (v := .agg #[.int .i64 (ab (bx - ax)), .int .i64 (ab (by_ - ay)), .int .i64 (sg (bx - ax)), .int .i64 0, .int .i64 0, .int .i64 (sg (by_ - ay))]) (by simp [results, Try.results41, go_sem, *]) rfl ⟨rfl, (by repeat (first | with_reducible exact Below.refl _ _ | with_reducible assumption | with_reducible refine below_alloc ?_ _ | with_reducible refine below_draw ?_ | ((with_reducible apply bset); (focus (first | exact Nat.le_refl _ | (simp; done) | omega | (simp; omega)))) | ((with_reducible apply bcall); assumption; (focus (first | exact Nat.le_refl _ | (simp; done) | omega | (simp; omega))))))⟩

theorem plus_any (cx cy sx sy k : Int) (w : World) (h1 : -1000000 ≤ cx) (h2 : cx ≤ 1000000) (h3 : -1000000 ≤ cy) (h4 : cy ≤ 1000000) (p1 : -1000000 ≤ k * sx) (p2 : k * sx ≤ 1000000) (p3 : -1000000 ≤ k * sy) (p4 : k * sy ≤ 1000000) :
    Calls Try.prog 42 #[.agg #[.int .i64 cx, .int .i64 cy], .agg #[.int .i64 sx, .int .i64 sy], .int .i64 k] w fun r w' => r = .returned (.agg #[.int .i64 (cx + k * sx), .int .i64 (cy + k * sy)]) ∧ Below w.heap.size w w' := by
  go_enter Try.func42, Try.ntmps42
  go_wp2
  exact bodyPost_ret (v := .agg #[.int .i64 (cx + k * sx), .int .i64 (cy + k * sy)]) (by simp [results, Try.results42, go_sem, *]) rfl ⟨rfl, (by repeat (first | with_reducible exact Below.refl _ _ | with_reducible assumption | with_reducible refine below_alloc ?_ _ | with_reducible refine below_draw ?_ | ((with_reducible apply bset); (focus (first | exact Nat.le_refl _ | (simp; done) | omega | (simp; omega)))) | ((with_reducible apply bcall); assumption; (focus (first | exact Nat.le_refl _ | (simp; done) | omega | (simp; omega))))))⟩

theorem Len_no (ax ay bx by_ : Int) (w : World) (h : ¬ (canP ⟨ax, ay⟩ ∧ canP ⟨bx, by_⟩)) :
    Calls Try.prog 15 #[.agg #[.int .i64 ax, .int .i64 ay], .agg #[.int .i64 bx, .int .i64 by_]] w fun r w' => r = .returned (.tuple #[.int .i64 0, .int .i64 4]) ∧ Below w.heap.size w w' := by
  by_cases ha : canP ⟨ax, ay⟩
  · have h1 := canB_yes ha
    have h2 := canB_no (fun hb => h ⟨ha, hb⟩)
    clear ha h
    go_enter Try.func15, Try.ntmps15
    go_wp2_with (go_at_call 44; refine (can_any _ _ _).mono ?_; rintro e w' ⟨rfl, kb⟩; obtain ⟨kc, kf, kl⟩ := rules kb (Nat.le_refl _); have kz0 := kl (w.heap.size) (by first | (simp; done) | assumption | omega | (simp; omega)); have kz1 := kl (w.heap.size + 1) (by first | (simp; done) | assumption | omega | (simp; omega)); clear kl)
    go_ret2
    exact ⟨rfl, (by repeat (first | with_reducible exact Below.refl _ _ | with_reducible assumption | with_reducible refine below_alloc ?_ _ | with_reducible refine below_draw ?_ | ((with_reducible apply bset); (focus (first | exact Nat.le_refl _ | (simp; done) | omega | (simp; omega)))) | ((with_reducible apply bcall); assumption; (focus (first | exact Nat.le_refl _ | (simp; done) | omega | (simp; omega))))))⟩
  · have h1 := canB_no ha
    clear ha h
    go_enter Try.func15, Try.ntmps15
    go_wp2_with (go_at_call 44; refine (can_any _ _ _).mono ?_; rintro e w' ⟨rfl, kb⟩; obtain ⟨kc, kf, kl⟩ := rules kb (Nat.le_refl _); have kz0 := kl (w.heap.size) (by first | (simp; done) | assumption | omega | (simp; omega)); have kz1 := kl (w.heap.size + 1) (by first | (simp; done) | assumption | omega | (simp; omega)); clear kl)
    go_ret2
    exact ⟨rfl, (by repeat (first | with_reducible exact Below.refl _ _ | with_reducible assumption | with_reducible refine below_alloc ?_ _ | with_reducible refine below_draw ?_ | ((with_reducible apply bset); (focus (first | exact Nat.le_refl _ | (simp; done) | omega | (simp; omega)))) | ((with_reducible apply bcall); assumption; (focus (first | exact Nat.le_refl _ | (simp; done) | omega | (simp; omega))))))⟩

theorem of_eq {ax ay bx by_ n m : Int} {A O : Cl} (w : World) (h : Hid (canP ⟨ax, ay⟩ ∧ canP ⟨bx, by_⟩)) (hn : Hid (rayN ⟨ax, ay⟩ ⟨bx, by_⟩ = n)) (hm : Hid (rayM ⟨ax, ay⟩ ⟨bx, by_⟩ = m)) (hA : Hid (rayA ⟨ax, ay⟩ ⟨bx, by_⟩ = A)) (hO : Hid (rayO ⟨ax, ay⟩ ⟨bx, by_⟩ = O)) :
    Calls Try.prog 41 #[.agg #[.int .i64 ax, .int .i64 ay], .agg #[.int .i64 bx, .int .i64 by_]] w fun r w' => r = .returned (.agg #[.int .i64 n, .int .i64 m, .int .i64 A.x, .int .i64 A.y, .int .i64 O.x, .int .i64 O.y]) ∧ Below w.heap.size w w' := by
  have := of_any ax ay bx by_ w h.out.1 h.out.2
  rw [hn.out, hm.out, hA.out, hO.out] at this
  exact this

@[go_sem] theorem run_field_n (W : World) (n m x y z u : Int) : (Instr.field 82 (.agg #[.int .i64 n, .int .i64 m, .int .i64 x, .int .i64 y, .int .i64 z, .int .i64 u]) 0).run Try.prog W = .ok (.int .i64 n) W := by kernel_rfl

set_option maxRecDepth 100000 in
theorem Len_ok {ax ay bx by_ n : Int} (w : World) (h : Hid (canP ⟨ax, ay⟩ ∧ canP ⟨bx, by_⟩)) (hn : Hid (rayN ⟨ax, ay⟩ ⟨bx, by_⟩ = n)) :
    Calls Try.prog 15 #[.agg #[.int .i64 ax, .int .i64 ay], .agg #[.int .i64 bx, .int .i64 by_]] w fun r w' => r = .returned (.tuple #[.int .i64 n, .int .i64 0]) ∧ Below w.heap.size w w' := by
  have h1 := canB_yes h.out.1
  have h2 := canB_yes h.out.2
  generalize hm : rayM ⟨ax, ay⟩ ⟨bx, by_⟩ = m
  generalize hA : rayA ⟨ax, ay⟩ ⟨bx, by_⟩ = A
  generalize hO : rayO ⟨ax, ay⟩ ⟨bx, by_⟩ = O
  have hm := Lib.hid hm
  have hA := Lib.hid hA
  have hO := Lib.hid hO
  go_enter Try.func15, Try.ntmps15
  go_wp2_with (first | (go_at_call 44; refine (can_any _ _ _).mono ?_; rintro e w' ⟨rfl, kb⟩; obtain ⟨kc, kf, kl⟩ := rules kb (Nat.le_refl _); have kz0 := kl (w.heap.size) (by first | (simp; done) | assumption | omega | (simp; omega)); have kz1 := kl (w.heap.size + 1) (by first | (simp; done) | assumption | omega | (simp; omega)); clear kl) | (go_at_call 41; refine (of_eq _ h hn hm hA hO).mono ?_; rintro e w' ⟨rfl, qb⟩; obtain ⟨qc, qf, ql⟩ := rules qb (Nat.le_refl _); have qz0 := ql (w.heap.size) (by first | (simp; done) | assumption | omega | (simp; omega)); have qz1 := ql (w.heap.size + 1) (by first | (simp; done) | assumption | omega | (simp; omega)); clear ql))
  go_ret2
  exact ⟨rfl, (by repeat (first | with_reducible exact Below.refl _ _ | with_reducible assumption | with_reducible refine below_alloc ?_ _ | with_reducible refine below_draw ?_ | ((with_reducible apply bset); (focus (first | exact Nat.le_refl _ | (simp; done) | omega | (simp; omega)))) | ((with_reducible apply bcall); assumption; (focus (first | exact Nat.le_refl _ | (simp; done) | omega | (simp; omega))))))⟩

end Go.Proofs.Ytjhbomgfjffmdaa
