/- Files, without the program: rectangles that lie apart, laid one by one. -/
import Derived.Test.YtbnjbgcadkdljaaGreatDoorMJ
import Derived.Test.YtbnjbgcadkdljaaGreatDoorTile1
set_option linter.unusedVariables false
set_option linter.unusedSimpArgs false
namespace Go.Proofs.YtbnjbgcadkdljaaGreatDoor
open Go Go.RowKit
/-- a rectangle of whole numbers, and what is laid into it -/
structure Tp where
  p0 : Nat
  q0 : Nat
  p1 : Nat
  q1 : Nat
  L : List Int
def Tp.in_ (t : Tp) (x y : Nat) : Prop := t.p0 ≤ x ∧ x ≤ t.p1 ∧ t.q0 ≤ y ∧ y ≤ t.q1
def Tp.ok (a h : Nat) (t : Tp) : Prop := t.p0 ≤ t.p1 ∧ t.p1 < a ∧ t.q0 ≤ t.q1 ∧ t.q1 < h ∧ t.L.length = (t.q1 + 1 - t.q0) * (t.p1 + 1 - t.p0)
def layAll (a : Nat) (V : List Int) (ts : List Tp) : List Int := ts.foldl (fun V t => layT V a t.p0 t.q0 t.p1 t.q1 t.L t.L.length) V
theorem layAll_len {a : Nat} : ∀ {ts : List Tp} {V : List Int}, (layAll a V ts).length = V.length
  | [], _ => rfl
  | t :: ts, V => by unfold layAll; rw [List.foldl_cons]; exact (layAll_len (ts := ts)).trans layT_len
theorem layAll_skip {a : Nat} {k : Nat} : ∀ {ts : List Tp} {V : List Int}, k < V.length → (∀ t ∈ ts, ¬ t.in_ (k % a) (k / a)) → nth (layAll a V ts) k = nth V k
  | [], _, _, _ => rfl
  | t :: ts, V, hk, hn => by
    unfold layAll; rw [List.foldl_cons]
    refine (layAll_skip (ts := ts) (by rw [layT_len]; exact hk) (fun s hs => hn s (List.mem_cons_of_mem _ hs))).trans ?_
    rw [layT_at hk, if_neg (fun q => hn t List.mem_cons_self q.1)]
theorem layAll_app {a : Nat} {V : List Int} {A B : List Tp} : layAll a V (A ++ B) = layAll a (layAll a V A) B := by unfold layAll; rw [List.foldl_append]
theorem rk_lt {t : Tp} {a h x y : Nat} (ok : t.ok a h) (hi : t.in_ x y) : rk t.p0 t.q0 (t.p1 + 1 - t.p0) x y < t.L.length := by
  obtain ⟨o1, o2, o3, o4, o5⟩ := ok
  obtain ⟨i1, i2, i3, i4⟩ := hi
  rw [o5]
  unfold rk
  have : (y - t.q0 + 1) * (t.p1 + 1 - t.p0) ≤ (t.q1 + 1 - t.q0) * (t.p1 + 1 - t.p0) := Nat.mul_le_mul_right _ (by omega)
  rw [Nat.succ_mul] at this
  omega
theorem layAll_hit {a h k : Nat} {A B : List Tp} {t : Tp} {V : List Int} (ok : t.ok a h) (hk : k < V.length) (hi : t.in_ (k % a) (k / a)) (hB : ∀ s ∈ B, ¬ s.in_ (k % a) (k / a)) :
    nth (layAll a V (A ++ t :: B)) k = nth t.L (rk t.p0 t.q0 (t.p1 + 1 - t.p0) (k % a) (k / a)) := by
  rw [layAll_app]
  show nth (layAll a (layT (layAll a V A) a t.p0 t.q0 t.p1 t.q1 t.L t.L.length) B) k = _
  rw [layAll_skip (by rw [layT_len, layAll_len]; exact hk) hB, layT_at (by rw [layAll_len]; exact hk), if_pos ⟨hi, rk_lt ok hi⟩]
/-- what was laid last into a rectangle that no later one meets is read again -/
theorem layAll_read {a h : Nat} {A B : List Tp} {t : Tp} {V : List Int} (ok : t.ok a h) (hV : V.length = a * h) (hB : ∀ s ∈ B, ∀ x y, t.in_ x y → ¬ s.in_ x y) :
    rvAll (layAll a V (A ++ t :: B)) a t.p0 t.q0 (t.p1 + 1 - t.p0) (t.q1 + 1 - t.q0) = t.L := by
  obtain ⟨o1, o2, o3, o4, o5⟩ := id ok
  refine nth_ext (by rw [rvAll_len, o5]) fun i hi => ?_
  rw [rvAll_len] at hi
  have hn : 0 < t.p1 + 1 - t.p0 := by omega
  have hr : i / (t.p1 + 1 - t.p0) < t.q1 + 1 - t.q0 := Nat.div_lt_of_lt_mul (by rw [Nat.mul_comm]; exact hi)
  have hc : i % (t.p1 + 1 - t.p0) < t.p1 + 1 - t.p0 := Nat.mod_lt _ hn
  have hi2 : i = i / (t.p1 + 1 - t.p0) * (t.p1 + 1 - t.p0) + i % (t.p1 + 1 - t.p0) := by rw [Nat.mul_comm]; exact (Nat.div_add_mod _ _).symm
  generalize i / (t.p1 + 1 - t.p0) = r at *
  generalize i % (t.p1 + 1 - t.p0) = c at *
  subst hi2
  rw [rvAll_at _ r c hr hc]
  have hx : t.p0 + c < a := by omega
  have hkm : ((t.q0 + r) * a + (t.p0 + c)) % a = t.p0 + c := by rw [Nat.mul_comm, Nat.mul_add_mod, Nat.mod_eq_of_lt hx]
  have hkd : ((t.q0 + r) * a + (t.p0 + c)) / a = t.q0 + r := by rw [Nat.mul_comm, Nat.mul_add_div (by omega), Nat.div_eq_of_lt hx]; rfl
  have hk : (t.q0 + r) * a + (t.p0 + c) < V.length := by
    rw [hV]
    have : (t.q0 + r + 1) * a ≤ h * a := Nat.mul_le_mul_right _ (by omega)
    rw [Nat.succ_mul, Nat.mul_comm h a] at this
    omega
  have hin : t.in_ (t.p0 + c) (t.q0 + r) := ⟨by omega, by omega, by omega, by omega⟩
  rw [layAll_hit ok hk (by rw [hkm, hkd]; exact hin) (fun s hs => by rw [hkm, hkd]; exact hB s hs _ _ hin), hkm, hkd]
  unfold rk
  rw [show t.q0 + r - t.q0 = r by omega, show t.p0 + c - t.p0 = c by omega]
end Go.Proofs.YtbnjbgcadkdljaaGreatDoor
