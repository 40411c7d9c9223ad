/- Layer 7: the example that every statement asks first; RectAsks. -/
import Derived.Test.YtcklknlbmbinoaaRect3
import Derived.Test.YtcklknlbmbinoaaRef7
set_option linter.unusedVariables false
set_option linter.unusedSimpArgs false
namespace Go.Proofs.Ytcklknlbmbinoaa
open Go.RowKit
theorem own_open {w : World} {B : Nat} {e : TypeId} {size : Nat} {v : Value} {n : Nat} {xs : List Value} (h : w.ownsRow B e size v n xs) (hn : 0 < n) :
    ∃ g cap, v = .slice (some ⟨g, 0, none⟩) n cap ∧ B ≤ g ∧ g < w.heap.size ∧ ∀ j u, xs[j]? = some u → w.cell? ⟨g, j, none⟩ = some u := by
  have hlt := h.lt
  have h0 := h
  obtain ⟨_, ⟨_, rfl⟩ | ⟨g, cap, cur, hv, hg, _⟩⟩ := h
  · omega
  · subst hv
    obtain ⟨h1, h2⟩ := hlt g rfl
    refine ⟨g, cap, rfl, hg, h2, fun j u hu => ?_⟩
    have := h0.cells (g := g) rfl j u hu
    have e1 : (⟨g, 0, none⟩ : Addr).add j = ⟨g, j, none⟩ := by unfold Addr.add; split <;> simp_all
    rwa [e1] at this
theorem awake7_pieces : piecesL ⟨14, 3, 17, 3⟩ = [⟨14, 3, 15, 3⟩, ⟨16, 3, 17, 3⟩] := by decide +kernel

theorem awake7_any (w : World) : Calls Try.prog 20 #[] w fun e w' => e = .returned (.bool true) ∧ Below w.heap.size w w' := by
  go_enter Try.func20, Try.ntmps20
  go_wp2_with fail
  refine (pieces_any _ _ _ _ _).mono ?_
  rintro e W1 ⟨v, rfl, hown, hb⟩
  rw [awake7_pieces] at hown
  obtain ⟨g, cap, rfl, _, hg, hc⟩ := own_open hown (by decide)
  have c0 := hc 0 _ rfl
  have c1 := hc 1 _ rfl
  have c2 := hc 2 _ rfl
  have c3 := hc 3 _ rfl
  have c4 := hc 4 _ rfl
  have c5 := hc 5 _ rfl
  have c6 := hc 6 _ rfl
  have c7 := hc 7 _ rfl
  clear hc hown
  go_wp2
  go_ret
  exact ⟨rfl, (by repeat (first | with_reducible exact Below.refl _ _ | with_reducible assumption | with_reducible refine below_alloc ?_ _ | with_reducible refine below_draw ?_ | ((with_reducible apply bset); (focus (first | exact Nat.le_refl _ | (simp; done) | (simp; omega)))) | ((with_reducible apply bcall); assumption; (focus (first | exact Nat.le_refl _ | (simp; done) | (simp; omega))))))⟩

set_option maxHeartbeats 2000000 in
theorem rectAsks_walk (rx0 ry0 rx1 ry1 cx cy a b : Int) (w : World) (_b0 : -9223372036854775808 ≤ rx0 ∧ rx0 ≤ 9223372036854775807) (_b1 : -9223372036854775808 ≤ ry0 ∧ ry0 ≤ 9223372036854775807) (_b2 : -9223372036854775808 ≤ rx1 ∧ rx1 ≤ 9223372036854775807) (_b3 : -9223372036854775808 ≤ ry1 ∧ ry1 ≤ 9223372036854775807)
    (_b4 : -9223372036854775808 ≤ cx ∧ cx ≤ 9223372036854775807) (_b5 : -9223372036854775808 ≤ cy ∧ cy ≤ 9223372036854775807) (ha : -9223372036854775808 ≤ a ∧ a ≤ 9223372036854775807) (hb : -9223372036854775808 ≤ b ∧ b ≤ 9223372036854775807) :
    Calls Try.prog 4 #[.agg #[.int .i64 rx0, .int .i64 ry0, .int .i64 rx1, .int .i64 ry1], .agg #[.int .i64 cx, .int .i64 cy], .int .i64 a, .int .i64 b] w fun e w' => e = .returned (.bool true) ∧ Below w.heap.size w w' := by
  clear _b0 _b1 _b2 _b3 _b4 _b5
  obtain ⟨ha1, ha2⟩ := ha
  obtain ⟨hb1, hb2⟩ := hb
  go_enter Try.func4, Try.ntmps4
  go_wp2_with fail
  refine (awake7_any _).mono ?_
  rintro e w1 ⟨rfl, h1b⟩
  obtain ⟨h1c, h1f, h1l⟩ := rules h1b (Nat.le_refl _); have h1z0 := h1l (w.heap.size) (by first | (simp; done) | assumption | (simp; omega)); have h1z1 := h1l (w.heap.size + 1) (by first | (simp; done) | assumption | (simp; omega))
  clear h1l
  go_wp2_with fail
  refine wp_region_over (by kernel_rfl) (by kernel_rfl) ?_
  repeat (go_big_quiet_step ((first | (go_at_call 21; exact (right_any _ _ _ _ _).over) | (go_at_call 22; exact (refRight_any _ _ _ _ _).over) | (go_at_call 23; exact (within_any _ _ _ _ _ _ _).over) | (go_at_call 24; exact (refWithin_any _ _ _ _ _ _ _ ha1 ha2 hb1 hb2).over) | (go_at_call 25; exact (area_any _ _ _ _ _).over) | (go_at_call 26; exact (refArea_any _ _ _ _ _).over) | (go_at_call 27; exact (has_any _ _ _ _ _ _ _).over) | (go_at_call 28; exact (refHas_any _ _ _ _ _ _ _).over))))
  refine wpQuiet_nil ?_
  intro w2 w2b
  obtain ⟨w2c, w2f, w2l⟩ := rules w2b (Nat.le_refl _); have w2z0 := w2l (w.heap.size) (by first | (simp; done) | assumption | (simp; omega)); have w2z1 := w2l (w.heap.size + 1) (by first | (simp; done) | assumption | (simp; omega)); clear w2l
  go_wp2
  go_ret
  exact ⟨by simp, (by repeat (first | with_reducible exact Below.refl _ _ | with_reducible assumption | with_reducible refine below_alloc ?_ _ | with_reducible refine below_draw ?_ | ((with_reducible apply bset); (focus (first | exact Nat.le_refl _ | (simp; done) | (simp; omega)))) | ((with_reducible apply bcall); assumption; (focus (first | exact Nat.le_refl _ | (simp; done) | (simp; omega))))))⟩
end Go.Proofs.Ytcklknlbmbinoaa
