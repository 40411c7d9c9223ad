/- Layer 4: PredFlat. -/
import Derived.Test.YtcklknlbmbinoaaLaw4d
set_option linter.unusedVariables false
set_option linter.unusedSimpArgs false
namespace Go.Proofs.Ytcklknlbmbinoaa
open Go.RowKit
def slopeL (v across down : Int) (W : Nat) (n : Nat) : List Int := (List.range n).map fun k => v + ((k % W : Nat) : Int) * across + ((k / W : Nat) : Int) * down
theorem slope_len (v across down : Int) (W n : Nat) : (slopeL v across down W n).length = n := by simp [slopeL]
theorem slope_get {v across down : Int} {W n k : Nat} (h : k < n) : nth (slopeL v across down W n) k = v + ((k % W : Nat) : Int) * across + ((k / W : Nat) : Int) * down := by simp [slopeL, nth, List.getD, h]
theorem slope_succ {v across down : Int} {W x y : Nat} (hx : x < W) : slopeL v across down W (y * W + x + 1) = slopeL v across down W (y * W + x) ++ [v + (x : Int) * across + (y : Int) * down] := by
  have e1 : (y * W + x) % W = x := by rw [Nat.mul_comm, Nat.mul_add_mod, Nat.mod_eq_of_lt hx]
  have e2 : (y * W + x) / W = y := by rw [Nat.mul_comm, Nat.mul_add_div (by omega), Nat.div_eq_of_lt hx]; rfl
  simp only [slopeL, List.range_succ, List.map_append, List.map_cons, List.map_nil, e1, e2]
theorem nth_rep {n k : Nat} {v : Int} (h : k < n) : nth (List.replicate n v) k = v := by simp [nth, List.getD, List.getElem?_replicate, h]
theorem prod_bd {a b A B : Int} (h0 : 0 ≤ a) (h1 : a ≤ A) (h2 : 0 ≤ b) (h3 : b ≤ B) : 0 ≤ a * b ∧ a * b ≤ A * B := ⟨Int.mul_nonneg h0 h2, Int.mul_le_mul h1 h3 h2 (by omega)⟩
theorem clamp_flat (v : Int) : clampI v v v = v := by unfold clampI; rw [mn_eq, mx_eq, mx_eq, mn_eq]; omega
theorem guess_flat {kind v : Int} {W n k : Nat} (hk : kind = 1 ∨ kind = 2) (hW : 1 ≤ W) (h : k < n) : guessI kind (List.replicate n v) (W : Int) (k : Int) = if k = 0 then 0 else v := by
  have hx : ∀ i : Int, 0 ≤ i → i < n → ix (List.replicate n v) i = v := fun i h0 h1 => nth_rep (by omega)
  unfold guessI leftI
  rw [if_neg (by omega)]
  by_cases k0 : k = 0
  · subst k0
    rw [if_pos (by right; left; omega), if_pos (by rfl), if_pos rfl]
  · rw [if_neg k0]
    by_cases c1 : kind = 1 ∨ (k : Int) < W ∨ (k : Int) % W = 0
    · rw [if_pos c1, if_neg (by omega)]
      by_cases c2 : (k : Int) % W = 0
      · have := mod_ge (i := k) (width := W) (by omega) (by omega) c2
        rw [if_pos c2, hx _ (by omega) (by omega)]
      · rw [if_neg c2, hx _ (by omega) (by omega)]
    · have h1 : (W : Int) ≤ k := by omega
      have h2 : (W : Int) < k := by
        rcases Int.lt_or_le (W : Int) k with hlt | hge
        · exact hlt
        · exact absurd (by rw [show (k : Int) = W by omega]; exact Int.emod_self) (fun e => c1 (.inr (.inr e)))
      rw [if_neg c1, hx _ (by omega) (by omega), hx _ (by omega) (by omega), hx _ (by omega) (by omega), clamp_flat]
theorem rests_flat {kind v : Int} {W n k : Nat} (hk : kind = 1 ∨ kind = 2) (hW : 1 ≤ W) (h : k < n) : nth (restsL kind (List.replicate n v) (W : Int) n) k = if k = 0 then v else 0 := by
  rw [restsL_get h, guess_flat hk hW h, nth_rep h]
  by_cases k0 : k = 0
  · rw [if_pos k0, if_pos k0]; omega
  · rw [if_neg k0, if_neg k0]; omega
theorem clamp_slope {s a d : Int} (ha : 0 ≤ a) (hd : 0 ≤ d) : s - clampI (s - a) (s - d) (s - a - d) = if d < a then d else a := by
  unfold clampI; rw [mn_eq, mx_eq, mx_eq, mn_eq]
  by_cases h : d < a
  · rw [if_pos h]; omega
  · rw [if_neg h]; omega
theorem rests_slope {v across down : Int} {W n k : Nat} (ha : 0 ≤ across) (hd : 0 ≤ down) (hW : 1 ≤ W) (h : k < n) (h1 : W ≤ k) (h2 : 0 < k % W) :
    nth (restsL 2 (slopeL v across down W n) (W : Int) n) k = if down < across then down else across := by
  have hdm := Nat.div_add_mod k W
  have hlt := Nat.mod_lt k (show 0 < W by omega)
  have hy : 1 ≤ k / W := Nat.div_pos h1 (by omega)
  generalize k % W = x at *
  generalize k / W = y at *
  obtain ⟨x, rfl⟩ : ∃ x', x = x' + 1 := ⟨x - 1, by omega⟩
  obtain ⟨y, rfl⟩ : ∃ y', y = y' + 1 := ⟨y - 1, by omega⟩
  rw [Nat.mul_comm, Nat.succ_mul] at hdm
  have at_ : ∀ a b : Nat, a < W → b * W + a < n → nth (slopeL v across down W n) (b * W + a) = v + (a : Int) * across + (b : Int) * down := fun a b ha hb => by
    rw [slope_get hb, show (b * W + a) % W = a by rw [Nat.mul_comm, Nat.mul_add_mod, Nat.mod_eq_of_lt ha], show (b * W + a) / W = b by rw [Nat.mul_comm, Nat.mul_add_div (by omega), Nat.div_eq_of_lt ha]; rfl]
  have v0 := at_ (x + 1) (y + 1) hlt (by rw [Nat.succ_mul]; omega)
  have v1 := at_ x (y + 1) (by omega) (by rw [Nat.succ_mul]; omega)
  have v2 := at_ (x + 1) y hlt (by omega)
  have v3 := at_ x y (by omega) (by omega)
  rw [Nat.succ_mul] at v0 v1
  rw [restsL_get h]
  have hg : guessI 2 (slopeL v across down W n) (W : Int) (k : Int) = clampI (nth (slopeL v across down W n) (k - 1)) (nth (slopeL v across down W n) (k - W)) (nth (slopeL v across down W n) (k - W - 1)) := by
    unfold guessI
    rw [if_neg (by omega), if_neg ?_]
    · unfold ix
      rw [show ((k : Int) - 1).toNat = k - 1 by omega, show ((k : Int) - W).toNat = k - W by omega, show ((k : Int) - W - 1).toNat = k - W - 1 by omega]
    · rintro (c | c | c)
      · omega
      · omega
      · have : (k : Int) % W = ((k % W : Nat) : Int) := rfl
        rw [this, ← hdm, show y * W + W + (x + 1) = (y + 1) * W + (x + 1) by rw [Nat.succ_mul], Nat.mul_comm, Nat.mul_add_mod, Nat.mod_eq_of_lt hlt] at c
        omega
  rw [hg, show k - 1 = y * W + W + x by omega, show k - W - 1 = y * W + x by omega, show k - W = y * W + (x + 1) by omega, ← hdm, v0, v1, v2, v3]
  have m1 : ((x + 1 : Nat) : Int) * across = (x : Int) * across + across := by rw [show ((x + 1 : Nat) : Int) = (x : Int) + 1 by omega, Int.add_mul, Int.one_mul]
  have m2 : ((y + 1 : Nat) : Int) * down = (y : Int) * down + down := by rw [show ((y + 1 : Nat) : Int) = (y : Int) + 1 by omega, Int.add_mul, Int.one_mul]
  rw [m1, m2]
  have hc := clamp_slope (s := v + ((x : Int) * across + across) + ((y : Int) * down + down)) ha hd
  rw [show v + ((x : Int) * across + across) + ((y : Int) * down + down) - across = v + (x : Int) * across + ((y : Int) * down + down) by omega, show v + ((x : Int) * across + across) + ((y : Int) * down + down) - down = v + ((x : Int) * across + across) + (y : Int) * down by omega, show v + (x : Int) * across + ((y : Int) * down + down) - down = v + (x : Int) * across + (y : Int) * down by omega] at hc
  exact hc

set_option maxRecDepth 100000 in
set_option maxHeartbeats 2000000 in
theorem flat_bad (v width rows across down : Int) (w : World) (hbad : ¬ (1 ≤ width ∧ width ≤ 20 ∧ 1 ≤ rows ∧ rows ≤ 20 ∧ -1000000000 ≤ v ∧ v ≤ 1000000000 ∧ 0 ≤ across ∧ across ≤ 1000000 ∧ 0 ≤ down ∧ down ≤ 1000000)) :
    Calls Try.prog 10 #[.int .i64 v, .int .i64 width, .int .i64 rows, .int .i64 across, .int .i64 down] w fun e w' => e = .returned (.bool true) ∧ Below w.heap.size w w' := by
  by_cases c0 : width < 1
  · go_enter Try.func10, Try.ntmps10
    go_wp2_with (go_at_call 14; with_reducible refine (awake4_any _).mono ?_; rintro e aw ⟨rfl, ab⟩)
    go_ret
    exact ⟨rfl, (by repeat (first | with_reducible exact Below.refl _ _ | with_reducible assumption | with_reducible refine below_alloc ?_ _ | with_reducible refine below_draw ?_ | ((with_reducible apply bset); (focus (first | exact Nat.le_refl _ | (simp; done) | omega | (simp; omega)))) | ((with_reducible apply bcall); assumption; (focus (first | exact Nat.le_refl _ | (simp; done) | omega | (simp; omega))))))⟩
  · have d0 : 1 ≤ width := by omega
    clear c0
    by_cases c1 : 20 < width
    · go_enter Try.func10, Try.ntmps10
      go_wp2_with (go_at_call 14; with_reducible refine (awake4_any _).mono ?_; rintro e aw ⟨rfl, ab⟩)
      go_ret
      exact ⟨rfl, (by repeat (first | with_reducible exact Below.refl _ _ | with_reducible assumption | with_reducible refine below_alloc ?_ _ | with_reducible refine below_draw ?_ | ((with_reducible apply bset); (focus (first | exact Nat.le_refl _ | (simp; done) | omega | (simp; omega)))) | ((with_reducible apply bcall); assumption; (focus (first | exact Nat.le_refl _ | (simp; done) | omega | (simp; omega))))))⟩
    · have d1 : width ≤ 20 := by omega
      clear c1
      by_cases c2 : rows < 1
      · go_enter Try.func10, Try.ntmps10
        go_wp2_with (go_at_call 14; with_reducible refine (awake4_any _).mono ?_; rintro e aw ⟨rfl, ab⟩)
        go_ret
        exact ⟨rfl, (by repeat (first | with_reducible exact Below.refl _ _ | with_reducible assumption | with_reducible refine below_alloc ?_ _ | with_reducible refine below_draw ?_ | ((with_reducible apply bset); (focus (first | exact Nat.le_refl _ | (simp; done) | omega | (simp; omega)))) | ((with_reducible apply bcall); assumption; (focus (first | exact Nat.le_refl _ | (simp; done) | omega | (simp; omega))))))⟩
      · have d2 : 1 ≤ rows := by omega
        clear c2
        by_cases c3 : 20 < rows
        · go_enter Try.func10, Try.ntmps10
          go_wp2_with (go_at_call 14; with_reducible refine (awake4_any _).mono ?_; rintro e aw ⟨rfl, ab⟩)
          go_ret
          exact ⟨rfl, (by repeat (first | with_reducible exact Below.refl _ _ | with_reducible assumption | with_reducible refine below_alloc ?_ _ | with_reducible refine below_draw ?_ | ((with_reducible apply bset); (focus (first | exact Nat.le_refl _ | (simp; done) | omega | (simp; omega)))) | ((with_reducible apply bcall); assumption; (focus (first | exact Nat.le_refl _ | (simp; done) | omega | (simp; omega))))))⟩
        · have d3 : rows ≤ 20 := by omega
          clear c3
          by_cases c4 : v < -1000000000
          · go_enter Try.func10, Try.ntmps10
            go_wp2_with (go_at_call 14; with_reducible refine (awake4_any _).mono ?_; rintro e aw ⟨rfl, ab⟩)
            go_ret
            exact ⟨rfl, (by repeat (first | with_reducible exact Below.refl _ _ | with_reducible assumption | with_reducible refine below_alloc ?_ _ | with_reducible refine below_draw ?_ | ((with_reducible apply bset); (focus (first | exact Nat.le_refl _ | (simp; done) | omega | (simp; omega)))) | ((with_reducible apply bcall); assumption; (focus (first | exact Nat.le_refl _ | (simp; done) | omega | (simp; omega))))))⟩
          · have d4 : -1000000000 ≤ v := by omega
            clear c4
            by_cases c5 : 1000000000 < v
            · go_enter Try.func10, Try.ntmps10
              go_wp2_with (go_at_call 14; with_reducible refine (awake4_any _).mono ?_; rintro e aw ⟨rfl, ab⟩)
              go_ret
              exact ⟨rfl, (by repeat (first | with_reducible exact Below.refl _ _ | with_reducible assumption | with_reducible refine below_alloc ?_ _ | with_reducible refine below_draw ?_ | ((with_reducible apply bset); (focus (first | exact Nat.le_refl _ | (simp; done) | omega | (simp; omega)))) | ((with_reducible apply bcall); assumption; (focus (first | exact Nat.le_refl _ | (simp; done) | omega | (simp; omega))))))⟩
            · have d5 : v ≤ 1000000000 := by omega
              clear c5
              by_cases c6 : across < 0
              · go_enter Try.func10, Try.ntmps10
                go_wp2_with (go_at_call 14; with_reducible refine (awake4_any _).mono ?_; rintro e aw ⟨rfl, ab⟩)
                go_ret
                exact ⟨rfl, (by repeat (first | with_reducible exact Below.refl _ _ | with_reducible assumption | with_reducible refine below_alloc ?_ _ | with_reducible refine below_draw ?_ | ((with_reducible apply bset); (focus (first | exact Nat.le_refl _ | (simp; done) | omega | (simp; omega)))) | ((with_reducible apply bcall); assumption; (focus (first | exact Nat.le_refl _ | (simp; done) | omega | (simp; omega))))))⟩
              · have d6 : 0 ≤ across := by omega
                clear c6
                by_cases c7 : 1000000 < across
                · go_enter Try.func10, Try.ntmps10
                  go_wp2_with (go_at_call 14; with_reducible refine (awake4_any _).mono ?_; rintro e aw ⟨rfl, ab⟩)
                  go_ret
                  exact ⟨rfl, (by repeat (first | with_reducible exact Below.refl _ _ | with_reducible assumption | with_reducible refine below_alloc ?_ _ | with_reducible refine below_draw ?_ | ((with_reducible apply bset); (focus (first | exact Nat.le_refl _ | (simp; done) | omega | (simp; omega)))) | ((with_reducible apply bcall); assumption; (focus (first | exact Nat.le_refl _ | (simp; done) | omega | (simp; omega))))))⟩
                · have d7 : across ≤ 1000000 := by omega
                  clear c7
                  by_cases c8 : down < 0
                  · go_enter Try.func10, Try.ntmps10
                    go_wp2_with (go_at_call 14; with_reducible refine (awake4_any _).mono ?_; rintro e aw ⟨rfl, ab⟩)
                    go_ret
                    exact ⟨rfl, (by repeat (first | with_reducible exact Below.refl _ _ | with_reducible assumption | with_reducible refine below_alloc ?_ _ | with_reducible refine below_draw ?_ | ((with_reducible apply bset); (focus (first | exact Nat.le_refl _ | (simp; done) | omega | (simp; omega)))) | ((with_reducible apply bcall); assumption; (focus (first | exact Nat.le_refl _ | (simp; done) | omega | (simp; omega))))))⟩
                  · have d8 : 0 ≤ down := by omega
                    clear c8
                    by_cases c9 : 1000000 < down
                    · go_enter Try.func10, Try.ntmps10
                      go_wp2_with (go_at_call 14; with_reducible refine (awake4_any _).mono ?_; rintro e aw ⟨rfl, ab⟩)
                      go_ret
                      exact ⟨rfl, (by repeat (first | with_reducible exact Below.refl _ _ | with_reducible assumption | with_reducible refine below_alloc ?_ _ | with_reducible refine below_draw ?_ | ((with_reducible apply bset); (focus (first | exact Nat.le_refl _ | (simp; done) | omega | (simp; omega)))) | ((with_reducible apply bcall); assumption; (focus (first | exact Nat.le_refl _ | (simp; done) | omega | (simp; omega))))))⟩
                    · have d9 : down ≤ 1000000 := by omega
                      clear c9
                      exact absurd ⟨d0, d1, d2, d3, d4, d5, d6, d7, d8, d9⟩ hbad

theorem may_rep {v : Int} {n : Nat} (h0 : -1000000000 ≤ v) (h1 : v ≤ 1000000000) : AllMay (List.replicate n v) n := fun j hj => by rw [nth_rep hj, mayB_iff]; omega
theorem may_slope {v across down : Int} {W R n : Nat} (d0 : 1 ≤ W) (d1 : W ≤ 20) (d3 : R ≤ 20) (d4 : -1000000000 ≤ v) (d5 : v ≤ 1000000000) (d6 : 0 ≤ across) (d7 : across ≤ 1000000) (d8 : 0 ≤ down) (d9 : down ≤ 1000000) (hn : R * W = n) : AllMay (slopeL v across down W n) n := fun j hj => by
  have h1 := Nat.mod_lt j (show 0 < W by omega)
  have h2 : j / W < R := Nat.div_lt_of_lt_mul (by rw [Nat.mul_comm]; omega)
  rw [slope_get hj, mayB_iff]
  generalize j % W = p at *
  generalize j / W = q at *
  have a := prod_bd (a := (p : Int)) (b := across) (A := 20) (B := 1000000) (by omega) (by omega) d6 d7
  have b := prod_bd (a := (q : Int)) (b := down) (A := 20) (B := 1000000) (by omega) (by omega) d8 d9
  omega
theorem right_flat {k : Int} {W R n : Nat} (hk : k = 1 ∨ k = 2) (d0 : 1 ≤ W) (hn : R * W = n) : right4 k (W : Int) (n : Int) := by
  refine ⟨by omega, by omega, by omega, by omega, ?_⟩
  rw [← hn, Int.natCast_mul]
  exact Int.mul_emod_left _ _

set_option maxRecDepth 100000 in
set_option maxHeartbeats 4000000 in
theorem flat_ok (v across down : Int) (W R n : Nat) (w : World) (d0 : 1 ≤ W) (d1 : W ≤ 20) (d2 : 1 ≤ R) (d3 : R ≤ 20) (d4 : -1000000000 ≤ v) (d5 : v ≤ 1000000000) (d6 : 0 ≤ across) (d7 : across ≤ 1000000) (d8 : 0 ≤ down) (d9 : down ≤ 1000000) (hn0 : Hid (R * W = n)) (hn : n ≤ 400) (hn1 : 1 ≤ n) :
    Calls Try.prog 10 #[.int .i64 v, .int .i64 W, .int .i64 R, .int .i64 across, .int .i64 down] w fun e w' => e = .returned (.bool true) ∧ Below w.heap.size w w' := by
  go_enter Try.func10, Try.ntmps10
  go_wp2_with fail
  with_reducible refine (awake4_any _).mono ?_
  rintro e W1 ⟨rfl, b1⟩
  go_wp2
  have l1 := World.ownsRow_lit (base := W1.heap.size) (e := 2) (size := 1) W1 #[] 0 (Nat.le_refl _) (Nat.zero_le _) rfl
  have l2 := World.ownsRow_lit (base := W1.heap.size) (e := 2) (size := 1) (W1.alloc (.cells #[] 2)) #[] 0 (by simp) (Nat.zero_le _) rfl
  go_loopw [11, 12, 13] (fun v1 v2 q wr => ∃ (y : Nat) (V1 V2 : Value), y ≤ R ∧ q = .int .i64 y ∧ V1 = v1 ∧ V2 = v2 ∧ wr.ownsRow W1.heap.size 2 1 V1 (y * W) ((List.replicate (y * W) v).map (Value.int .i64)) ∧ wr.ownsRow W1.heap.size 2 1 V2 (y * W) ((slopeL v across down W (y * W)).map (Value.int .i64)) ∧ Apart V1 V2 ∧ Below W1.heap.size W1 wr ∧ W1.heap.size ≤ wr.heap.size) (fun _ _ q _ => R - (intOf q).toNat)
  case atStart => exact ⟨0, _, _, Nat.zero_le _, rfl, rfl, rfl, by rw [Nat.zero_mul]; exact l1.alloc _, by have h2 := l2; simp only [World.size_alloc] at h2; rw [Nat.zero_mul]; exact h2, fun k hk hk2 => by simp [Value.ownBlock] at hk hk2; omega, ((Below.refl _ _).alloc (Nat.le_refl _) _).alloc (by simp) _, by simp only [World.size_alloc]; omega⟩
  case round =>
    clear l1 l2
    obtain ⟨y, V1, V2, hy, rfl, rfl, rfl, o1, o2, hap, hE, hB⟩ := hrel
    by_cases hyR : y < R
    · have hyW : y * W + W ≤ n := by rw [← hn0.out, ← Nat.succ_mul]; exact Nat.mul_le_mul_right W hyR
      go_wp2
      obtain ⟨wo, rfl⟩ : ∃ wo : World, wo = wr := ⟨_, rfl⟩
      go_loopw [11, 12, 14] (fun v1 v2 q wr => ∃ (x : Nat) (V1 V2 : Value), x ≤ W ∧ q = .int .i64 x ∧ V1 = v1 ∧ V2 = v2 ∧ wr.ownsRow W1.heap.size 2 1 V1 (y * W + x) ((List.replicate (y * W + x) v).map (Value.int .i64)) ∧ wr.ownsRow W1.heap.size 2 1 V2 (y * W + x) ((slopeL v across down W (y * W + x)).map (Value.int .i64)) ∧ Apart V1 V2 ∧ Below W1.heap.size W1 wr ∧ W1.heap.size ≤ wr.heap.size) (fun _ _ q _ => W - (intOf q).toNat)
      case atStart => exact ⟨0, _, _, Nat.zero_le _, rfl, rfl, rfl, o1, o2, hap, hE, hB⟩
      case round =>
        clear o1 o2 hap hE hB
        obtain ⟨x, V1, V2, hx, rfl, rfl, rfl, o1, o2, hap, hE, hB⟩ := hrel
        by_cases hxW : x < W
        · obtain ⟨_, _⟩ := prod_bd (a := (x : Int)) (b := across) (A := 20) (B := 1000000) (by omega) (by omega) d6 d7
          obtain ⟨_, _⟩ := prod_bd (a := (y : Int)) (b := down) (A := 20) (B := 1000000) (by omega) (by omega) d8 d9
          go_wp2_with (first | (at_builtin; refine wpList_push2 rfl (.tmp 76) (.tmp 78) 22 2 rfl Try.underlying22 _ 1 8 info_i64 rfl (by decide) _ (y * W + x) _ rfl W1.heap.size o1 W1 hE hB #[.int .i64 v] _ _ rfl rfl rfl (by simp [Value.oneCell']) (by unfold maxLen; omega) (by omega) ?_; intro v' w' p1 p1E p1B p1P; obtain ⟨o2', hap'⟩ := p1P.other o2 hap.symm; clear o1 o2 ) | (at_builtin; refine wpList_push2 rfl (.tmp 80) (.tmp 90) 22 2 rfl Try.underlying22 _ 1 8 info_i64 rfl (by decide) _ (y * W + x) _ rfl W1.heap.size o2' W1 p1E p1B _ _ _ rfl rfl rfl (by simp [Value.oneCell']) (by unfold maxLen; omega) (by omega) ?_; intro v2' w2' p2 p2E p2B p2P; obtain ⟨o1', hap2⟩ := p2P.other p1 hap'.symm; clear p1 o2' ))
          have q1 : w2'.ownsRow W1.heap.size 2 1 v' (y * W + (x + 1)) ((List.replicate (y * W + (x + 1)) v).map (Value.int .i64)) := by
            rw [← Nat.add_assoc, List.replicate_succ', List.map_append]; exact o1'
          have q2 : w2'.ownsRow W1.heap.size 2 1 v2' (y * W + (x + 1)) ((slopeL v across down W (y * W + (x + 1))).map (Value.int .i64)) := by
            rw [← Nat.add_assoc, slope_succ hxW, List.map_append]; exact p2
          clear o1' p2
          go_roundw
          case rel => exact ⟨x + 1, _, _, by omega, by go_num, rfl, rfl, q1, q2, hap2, p2E, p2B⟩
          case measure => simp [intOf]; omega
        · have hxe : x = W := by omega
          subst hxe
          go_wp2
          rw [← Nat.succ_mul] at o1 o2
          go_roundw
          case rel => exact ⟨y + 1, _, _, by omega, by go_num, rfl, rfl, o1, o2, hap, hE, hB⟩
          case measure => simp [intOf]; omega
    · have hye : y = R := by omega
      subst hye
      rw [hn0.out] at o1 o2
      obtain ⟨A1, c1, rfl, _, _⟩ := own_form o1
      obtain ⟨A2, c2, rfl, _, _⟩ := own_form o2
      have i1 := own_ints o1
      have i2 := own_ints o2
      clear o1 o2 hap
      have hs' := Lib.hid hn0.out
      have hsz : w.heap.size ≤ W1.heap.size := b1.size
      have hEw : Below w.heap.size w wr := b1.trans (hE.mono hsz)
      clear hE hB
      go_wp2_with fail
      with_reducible refine (Rests_ok 1 (List.replicate n v) _ _ _ _ _ (right_flat (.inl rfl) d0 hn0.out) i1 (by omega) (by assumption) (Lib.hid (may_rep d4 d5))).mono ?_
      rintro e X1 ⟨a, rfl, oa, X1b⟩
      obtain ⟨Aa, ca, rfl, _, _⟩ := own_form oa
      have iva := own_ints oa
      clear oa
      have i1 := i1.below (Nat.le_refl _) X1b
      have i2 := i2.below (Nat.le_refl _) X1b
      go_wp2_with fail
      with_reducible refine (Rests_ok 2 (List.replicate n v) _ _ _ _ _ (right_flat (.inr rfl) d0 hn0.out) i1 (by omega) (by assumption) (Lib.hid (may_rep d4 d5))).mono ?_
      rintro e X2 ⟨b, rfl, ob, X2b⟩
      obtain ⟨Ab, cb, rfl, _, _⟩ := own_form ob
      have ivb := own_ints ob
      clear ob
      have i2 := i2.below (Nat.le_refl _) X2b
      have iva := iva.below (Nat.le_refl _) X2b
      go_wp2_with fail
      with_reducible refine (Rests_ok 2 (slopeL v across down W n) _ _ _ _ _ (right_flat (.inr rfl) d0 hn0.out) i2 (by omega) (by assumption) (Lib.hid (may_slope d0 d1 d3 d4 d5 d6 d7 d8 d9 hn0.out))).mono ?_
      rintro e X3 ⟨c, rfl, oc, X3b⟩
      obtain ⟨Ac, cc, rfl, _, _⟩ := own_form oc
      have ivc := own_ints oc
      clear oc
      have iva := iva.below (Nat.le_refl _) X3b
      have ivb := ivb.below (Nat.le_refl _) X3b
      go_wp2_with fail
      go_loop [21, 22, 23] (fun q _ _ => ∃ k : Nat, k ≤ n ∧ q = .int .i64 k) (fun q _ _ => n - (intOf q).toNat)
      case atStart => exact ⟨0, Nat.zero_le _, rfl⟩
      case round =>
        obtain ⟨k, hk, rfl⟩ := hrel
        by_cases hlt : k < n
        · obtain ⟨b, off, rfl, hb, hc⟩ := iva.at_ hlt
          obtain ⟨b', off', rfl, hb', hc'⟩ := ivb.at_ hlt
          obtain ⟨b'', off'', rfl, hb'', hc''⟩ := ivc.at_ hlt
          rw [rests_flat (.inl rfl) d0 hlt] at hc
          rw [rests_flat (.inr rfl) d0 hlt] at hc'
          by_cases k0 : k = 0
          · rw [if_pos k0] at hc hc'
            have z0 : ((k : Int) == 0) = true := by simp; omega
            clear k0
            by_cases k1 : down < across
            · by_cases g1 : W ≤ k
              · by_cases g2 : 0 < k % W
                · rw [rests_slope d6 d8 d0 hlt g1 g2, if_pos k1] at hc''
                  have g3 : 0 < (k : Int) % (W : Int) := by have : (k : Int) % W = ((k % W : Nat) : Int) := rfl; omega
                  go_wp2
                  go_round
                  case rel => exact ⟨k + 1, by omega, by go_num⟩
                  case measure => simp [intOf]; omega
                · clear hc''
                  have g3 : decide (0 < (k : Int) % (W : Int)) = false := by have : (k : Int) % W = ((k % W : Nat) : Int) := rfl; simp; omega
                  have g4 : decide (0 < k % W) = false := by simp; omega
                  go_wp2
                  go_round
                  case rel => exact ⟨k + 1, by omega, by go_num⟩
                  case measure => simp [intOf]; omega
              · clear hc''
                have g4 : decide (W ≤ k) = false := by simp; omega
                go_wp2
                go_round
                case rel => exact ⟨k + 1, by omega, by go_num⟩
                case measure => simp [intOf]; omega
            · by_cases g1 : W ≤ k
              · by_cases g2 : 0 < k % W
                · rw [rests_slope d6 d8 d0 hlt g1 g2, if_neg k1] at hc''
                  have g3 : 0 < (k : Int) % (W : Int) := by have : (k : Int) % W = ((k % W : Nat) : Int) := rfl; omega
                  go_wp2
                  go_round
                  case rel => exact ⟨k + 1, by omega, by go_num⟩
                  case measure => simp [intOf]; omega
                · clear hc''
                  have g3 : decide (0 < (k : Int) % (W : Int)) = false := by have : (k : Int) % W = ((k % W : Nat) : Int) := rfl; simp; omega
                  have g4 : decide (0 < k % W) = false := by simp; omega
                  go_wp2
                  go_round
                  case rel => exact ⟨k + 1, by omega, by go_num⟩
                  case measure => simp [intOf]; omega
              · clear hc''
                have g4 : decide (W ≤ k) = false := by simp; omega
                go_wp2
                go_round
                case rel => exact ⟨k + 1, by omega, by go_num⟩
                case measure => simp [intOf]; omega
          · rw [if_neg k0] at hc hc'
            have z0 : ((k : Int) == 0) = false := by simp; omega
            clear k0
            by_cases k1 : down < across
            · by_cases g1 : W ≤ k
              · by_cases g2 : 0 < k % W
                · rw [rests_slope d6 d8 d0 hlt g1 g2, if_pos k1] at hc''
                  have g3 : 0 < (k : Int) % (W : Int) := by have : (k : Int) % W = ((k % W : Nat) : Int) := rfl; omega
                  go_wp2
                  go_round
                  case rel => exact ⟨k + 1, by omega, by go_num⟩
                  case measure => simp [intOf]; omega
                · clear hc''
                  have g3 : decide (0 < (k : Int) % (W : Int)) = false := by have : (k : Int) % W = ((k % W : Nat) : Int) := rfl; simp; omega
                  have g4 : decide (0 < k % W) = false := by simp; omega
                  go_wp2
                  go_round
                  case rel => exact ⟨k + 1, by omega, by go_num⟩
                  case measure => simp [intOf]; omega
              · clear hc''
                have g4 : decide (W ≤ k) = false := by simp; omega
                go_wp2
                go_round
                case rel => exact ⟨k + 1, by omega, by go_num⟩
                case measure => simp [intOf]; omega
            · by_cases g1 : W ≤ k
              · by_cases g2 : 0 < k % W
                · rw [rests_slope d6 d8 d0 hlt g1 g2, if_neg k1] at hc''
                  have g3 : 0 < (k : Int) % (W : Int) := by have : (k : Int) % W = ((k % W : Nat) : Int) := rfl; omega
                  go_wp2
                  go_round
                  case rel => exact ⟨k + 1, by omega, by go_num⟩
                  case measure => simp [intOf]; omega
                · clear hc''
                  have g3 : decide (0 < (k : Int) % (W : Int)) = false := by have : (k : Int) % W = ((k % W : Nat) : Int) := rfl; simp; omega
                  have g4 : decide (0 < k % W) = false := by simp; omega
                  go_wp2
                  go_round
                  case rel => exact ⟨k + 1, by omega, by go_num⟩
                  case measure => simp [intOf]; omega
              · clear hc''
                have g4 : decide (W ≤ k) = false := by simp; omega
                go_wp2
                go_round
                case rel => exact ⟨k + 1, by omega, by go_num⟩
                case measure => simp [intOf]; omega
        · have hkn : k = n := by omega
          subst hkn
          go_wp2
          go_ret
          exact ⟨rfl, (by repeat (first | with_reducible exact Below.refl _ _ | with_reducible assumption | with_reducible refine below_alloc ?_ _ | with_reducible refine below_draw ?_ | ((with_reducible apply bset); (focus (first | exact Nat.le_refl _ | (simp; done) | omega | (simp; omega)))) | ((with_reducible apply bcall); assumption; (focus (first | exact Nat.le_refl _ | (simp; done) | omega | (simp; omega))))))⟩

theorem predFlat_walk (v width rows across down : Int) (w : World) (_a0 : (-9223372036854775808 ≤ v ∧ v ≤ 9223372036854775807)) (_a1 : (-9223372036854775808 ≤ width ∧ width ≤ 9223372036854775807)) (_a2 : (-9223372036854775808 ≤ rows ∧ rows ≤ 9223372036854775807)) (_a3 : (-9223372036854775808 ≤ across ∧ across ≤ 9223372036854775807)) (_a4 : (-9223372036854775808 ≤ down ∧ down ≤ 9223372036854775807)) :
    Calls Try.prog 10 #[.int .i64 v, .int .i64 width, .int .i64 rows, .int .i64 across, .int .i64 down] w fun e w' => e = .returned (.bool true) ∧ Below w.heap.size w w' := by
  by_cases h : 1 ≤ width ∧ width ≤ 20 ∧ 1 ≤ rows ∧ rows ≤ 20 ∧ -1000000000 ≤ v ∧ v ≤ 1000000000 ∧ 0 ≤ across ∧ across ≤ 1000000 ∧ 0 ≤ down ∧ down ≤ 1000000
  · obtain ⟨h0, h1, h2, h3, h4, h5, h6, h7, h8, h9⟩ := h
    obtain ⟨W, rfl⟩ := Int.eq_ofNat_of_zero_le (show 0 ≤ width by omega)
    obtain ⟨R, rfl⟩ := Int.eq_ofNat_of_zero_le (show 0 ≤ rows by omega)
    have hb : R * W ≤ 20 * 20 := Nat.mul_le_mul (by omega) (by omega)
    have hp : 0 < R * W := Nat.mul_pos (by omega) (by omega)
    exact flat_ok v across down W R _ w (by omega) (by omega) (by omega) (by omega) h4 h5 h6 h7 h8 h9 (Lib.hid rfl) (by omega) (by omega)
  · exact flat_bad v width rows across down w h

end Go.Proofs.Ytcklknlbmbinoaa
