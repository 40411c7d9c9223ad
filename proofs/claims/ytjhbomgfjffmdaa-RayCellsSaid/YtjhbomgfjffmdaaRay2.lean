/- Layer 23: slices of cells that are read; the reference's Len and SameCells; the example. -/
import Derived.Test.YtjhbomgfjffmdaaRay1
set_option linter.unusedVariables false
set_option linter.unusedSimpArgs false
namespace Go.Proofs.Ytjhbomgfjffmdaa
open Go.RowKit
def cnth (l : List Cl) (j : Nat) : Cl := l.getD j ⟨0, 0⟩
theorem cnth_row {a b : Cl} {n j : Nat} (h : j < n) : cnth (rayRow a b n) j = rayAt a b (j : Int) := by simp [cnth, List.getD, rayRow_get h]
/-- the slice (A, n) reads as these cells -/
def Cells (w : World) (A : Option Addr) (n : Nat) (l : List Cl) : Prop :=
  l.length = n ∧ (0 < n → ∃ b off, A = some ⟨b, off, none⟩ ∧ b < w.heap.size ∧ ∀ j, j < n → w.cell? ⟨b, off + j * 2, none⟩ = some (.int .i64 (cnth l j).x) ∧ w.cell? ⟨b, off + j * 2 + 1, none⟩ = some (.int .i64 (cnth l j).y))
section
variable {w w' : World} {A : Option Addr} {n : Nat} {l : List Cl}
theorem Cells.at_ {i : Nat} (h : Cells w A n l) (hi : i < n) : ∃ b off, A = some ⟨b, off, none⟩ ∧ b < w.heap.size ∧ w.cell? ⟨b, off + i * 2, none⟩ = some (.int .i64 (cnth l i).x) ∧ w.cell? ⟨b, off + i * 2 + 1, none⟩ = some (.int .i64 (cnth l i).y) := by
  obtain ⟨b, off, e, hb, hc⟩ := h.2 (by omega)
  exact ⟨b, off, e, hb, hc i hi⟩
theorem Cells.cell {b off i : Nat} (h : Cells w (some ⟨b, off, none⟩) n l) (hi : i < n) : b < w.heap.size ∧ w.cell? ⟨b, off + i * 2, none⟩ = some (.int .i64 (cnth l i).x) ∧ w.cell? ⟨b, off + i * 2 + 1, none⟩ = some (.int .i64 (cnth l i).y) := by
  obtain ⟨b', off', e, hb, hc⟩ := h.at_ hi
  cases e
  exact ⟨hb, hc⟩
theorem Cells.below {B : Nat} (h : Cells w A n l) (hB : w.heap.size ≤ B) (hb : Below B w w') : Cells w' A n l :=
  ⟨h.1, fun hn => by
    obtain ⟨b, off, e, hlt, hc⟩ := h.2 hn
    have hk : ∀ o, w'.cell? ⟨b, o, none⟩ = w.cell? ⟨b, o, none⟩ := fun o => hb.cell (p := ⟨b, o, none⟩) (by simp only; omega)
    exact ⟨b, off, e, Nat.lt_of_lt_of_le hlt hb.size, fun j hj => by rw [hk, hk]; exact hc j hj⟩⟩
theorem ccells_len (l : List Cl) : (ccells l).length = l.length * 2 := by
  induction l with
  | nil => rfl
  | cons c l ih => simp only [ccells, List.flatMap_cons, List.length_append, List.length_cons, List.length_nil] at ih ⊢; omega
theorem ccells_get : ∀ (l : List Cl) (j : Nat), j < l.length → (ccells l)[j * 2]? = some (.int .i64 (cnth l j).x) ∧ (ccells l)[j * 2 + 1]? = some (.int .i64 (cnth l j).y)
  | [], j, h => by cases h
  | c :: l, 0, _ => ⟨rfl, rfl⟩
  | c :: l, j + 1, h => by
    have ih := ccells_get l j (by simpa using h)
    have e : ccells (c :: l) = .int .i64 c.x :: .int .i64 c.y :: ccells l := rfl
    have e2 : cnth (c :: l) (j + 1) = cnth l j := rfl
    rw [e, e2, show (j + 1) * 2 = j * 2 + 1 + 1 by omega, List.getElem?_cons_succ, List.getElem?_cons_succ, List.getElem?_cons_succ, List.getElem?_cons_succ]
    exact ih
theorem own_cells {B : Nat} {e : TypeId} {cap : Nat} (h : w.ownsRow B e 2 (.slice A n cap) n (ccells l)) : Cells w A n l := by
  have hl : l.length = n := by have := h.1; rw [ccells_len] at this; omega
  refine ⟨hl, fun hn => ?_⟩
  obtain ⟨g, cap', hv, _, hg, hc⟩ := own_open h hn
  injection hv with hA
  refine ⟨g, 0, hA, hg, fun j hj => ?_⟩
  have hq := ccells_get l j (by omega)
  rw [Nat.zero_add]
  exact ⟨hc _ _ hq.1, hc _ _ hq.2⟩
end

theorem sameCells_yes (l : List Cl) (A C : Option Addr) (n cap cap2 : Nat) (w : World) (h : Cells w A n l) (h2 : Cells w C n l) (hn : n ≤ 1000000) :
    Calls Try.prog 18 #[.slice A n cap, .slice C n cap2] w fun r w' => r = .returned (.bool true) ∧ Below w.heap.size w w' := by
  go_enter Try.func18, Try.ntmps18
  go_wp2
  go_loopw [5] (fun x wr => ∃ k : Nat, k ≤ n ∧ x = .int .i64 k ∧ Below w.heap.size w wr) (fun x _ => n - (intOf x).toNat)
  case atStart => exact ⟨0, Nat.zero_le _, rfl, Below.refl _ _⟩
  case round =>
    obtain ⟨k, hk, rfl, hE⟩ := hrel
    by_cases hlt : k < n
    · have h' := h.below (Nat.le_refl _) hE
      have h2' := h2.below (Nat.le_refl _) hE
      obtain ⟨b, off, rfl, hb, hc, hd⟩ := h'.at_ hlt
      obtain ⟨b2, off2, rfl, hb2, hc2, hd2⟩ := h2'.at_ hlt
      go_wp2
      refine wp_region_over (by kernel_rfl) (by kernel_rfl) ?_
      repeat (go_big_quiet_step ((fail)))
      refine wpQuiet_nil ?_
      intro w2 w2b
      obtain ⟨w2c, w2f, w2l⟩ := rules w2b (Nat.le_refl _); clear w2l
      go_wp2
      go_roundw
      case rel => exact ⟨k + 1, by omega, by go_num, hE.trans (w2b.mono hE.size)⟩
      case measure => simp [intOf]; omega
    · have hkn : k = n := by omega
      subst hkn
      go_wp2
      go_ret
      exact ⟨rfl, hE⟩

theorem size_any (n : Int) (w : World) (h0 : -4611686018427387904 ≤ n) (h1 : n ≤ 4611686018427387904) :
    Calls Try.prog 43 #[.int .i64 n] w fun r w' => r = .returned (.int .i64 (ab n)) ∧ w = w' := by
  by_cases h : n < 0
  · have e2 : ab n = -n := if_pos h
    rw [e2]
    clear e2
    go_enter Try.func43, Try.ntmps43
    go_wp2
    go_ret
    exact ⟨rfl, rfl⟩
  · have e2 : ab n = n := if_neg h
    rw [e2]
    clear e2
    go_enter Try.func43, Try.ntmps43
    go_wp2
    go_ret
    exact ⟨rfl, rfl⟩

theorem rayN_max (a b : Cl) : rayN a b = if ab (b.y - a.y) < ab (b.x - a.x) then ab (b.x - a.x) else ab (b.y - a.y) := by
  unfold rayN
  by_cases h : steep a b
  · rw [if_pos h]; unfold steep at h; rw [if_neg (by omega)]
  · rw [if_neg h]; unfold steep at h
    by_cases h2 : ab (b.y - a.y) < ab (b.x - a.x)
    · rw [if_pos h2]
    · rw [if_neg h2]; omega

set_option maxHeartbeats 1000000 in
theorem refLen_any (ax ay bx by_ : Int) (w : World) (h0 : -1000000 ≤ ax) (g0 : ax ≤ 1000000) (h1 : -1000000 ≤ ay) (g1 : ay ≤ 1000000) (h2 : -1000000 ≤ bx) (g2 : bx ≤ 1000000) (h3 : -1000000 ≤ by_) (g3 : by_ ≤ 1000000) :
    Calls Try.prog 14 #[.agg #[.int .i64 ax, .int .i64 ay], .agg #[.int .i64 bx, .int .i64 by_]] w fun r w' => r = .returned (.int .i64 (rayN ⟨ax, ay⟩ ⟨bx, by_⟩)) ∧ Below w.heap.size w w' := by
  have e := rayN_max ⟨ax, ay⟩ ⟨bx, by_⟩
  simp only at e
  rw [e]
  have w1 : wrap64 (bx - ax) = bx - ax := IntWalk.wrap64_in _ ⟨by omega, by omega⟩
  have w2 : wrap64 (by_ - ay) = by_ - ay := IntWalk.wrap64_in _ ⟨by omega, by omega⟩
  clear e
  by_cases h : ab (by_ - ay) < ab (bx - ax)
  · rw [if_pos h]
    go_enter Try.func14, Try.ntmps14
    go_wp2
    refine wp_region_over (by kernel_rfl) (by kernel_rfl) ?_
    repeat (go_big_quiet_step ((first | (go_at_call 43; with_reducible exact (size_any _ _ (by omega) (by omega)).over_same))))
    refine wpQuiet_nil ?_
    intro x2 x2b
    obtain ⟨x2c, x2f, x2l⟩ := rules x2b (Nat.le_refl _); have x2z0 := x2l (w.heap.size) (by first | (simp; done) | assumption | omega | (simp; omega)); have x2z1 := x2l (w.heap.size + 1) (by first | (simp; done) | assumption | omega | (simp; omega)); clear x2l
    go_wp2
    go_ret
    exact ⟨rfl, (by repeat (first | with_reducible exact Below.refl _ _ | with_reducible assumption | with_reducible refine below_alloc ?_ _ | with_reducible refine below_draw ?_ | ((with_reducible apply bset); (focus (first | exact Nat.le_refl _ | (simp; done) | omega | (simp; omega)))) | ((with_reducible apply bcall); assumption; (focus (first | exact Nat.le_refl _ | (simp; done) | omega | (simp; omega))))))⟩
  · rw [if_neg h]
    go_enter Try.func14, Try.ntmps14
    go_wp2
    refine wp_region_over (by kernel_rfl) (by kernel_rfl) ?_
    repeat (go_big_quiet_step ((first | (go_at_call 43; with_reducible exact (size_any _ _ (by omega) (by omega)).over_same))))
    refine wpQuiet_nil ?_
    intro x2 x2b
    obtain ⟨x2c, x2f, x2l⟩ := rules x2b (Nat.le_refl _); have x2z0 := x2l (w.heap.size) (by first | (simp; done) | assumption | omega | (simp; omega)); have x2z1 := x2l (w.heap.size + 1) (by first | (simp; done) | assumption | omega | (simp; omega)); clear x2l
    go_wp2
    go_ret
    exact ⟨rfl, (by repeat (first | with_reducible exact Below.refl _ _ | with_reducible assumption | with_reducible refine below_alloc ?_ _ | with_reducible refine below_draw ?_ | ((with_reducible apply bset); (focus (first | exact Nat.le_refl _ | (simp; done) | omega | (simp; omega)))) | ((with_reducible apply bcall); assumption; (focus (first | exact Nat.le_refl _ | (simp; done) | omega | (simp; omega))))))⟩

end Go.Proofs.Ytjhbomgfjffmdaa
