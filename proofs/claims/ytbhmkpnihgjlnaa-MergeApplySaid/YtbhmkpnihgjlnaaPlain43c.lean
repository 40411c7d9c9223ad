/- Layer 43 without the program: the sweeps, round by round. -/
import Derived.Test.YtbhmkpnihgjlnaaPlain43b
import Derived.Test.YtbhmkpnihgjlnaaPlain42
set_option linter.unusedVariables false
set_option linter.unusedSimpArgs false
namespace Go.Proofs.Ytbhmkpnihgjlnaa
open Go Go.RowKit

/-- before the sweeps: nought for what is high enough, the first i of them -/
def d0 (V : List Int) (t : Int) (i : Nat) : List Int := (List.range V.length).map fun k => if k < i then (if t ≤ nth V k then 0 else 4096) else 0
theorem d0_len {V : List Int} {t : Int} {i : Nat} : (d0 V t i).length = V.length := by simp [d0]
theorem d0_at {V : List Int} {t : Int} {i k : Nat} (h : k < V.length) : nth (d0 V t i) k = if k < i then (if t ≤ nth V k then 0 else 4096) else 0 := by simp [d0, nth, List.getD, h]
theorem d0_zero {V : List Int} {t : Int} {n : Nat} (h : V.length = n) : List.replicate n 0 = d0 V t 0 := nth_ext (by rw [d0_len, List.length_replicate, h]) fun j hj => by
  rw [List.length_replicate] at hj
  rw [d0_at (by omega), nth_rep hj, if_neg (Nat.not_lt_zero _)]
theorem d0_far {V : List Int} {t : Int} {i : Nat} (hi : i < V.length) (h : ¬ t ≤ nth V i) : (d0 V t i).set i 4096 = d0 V t (i + 1) := nth_ext (by rw [List.length_set, d0_len, d0_len]) fun j hj => by
  rw [List.length_set, d0_len] at hj
  rw [nth_put (by rw [d0_len]; exact hi), d0_at hj, d0_at hj]
  by_cases e : j = i
  · subst e; rw [if_pos rfl, if_pos (Nat.lt_succ_self _), if_neg h]
  · rw [if_neg e]
    by_cases c : j < i
    · rw [if_pos c, if_pos (show j < i + 1 by omega)]
    · rw [if_neg c, if_neg (show ¬ j < i + 1 by omega)]
theorem d0_near {V : List Int} {t : Int} {i : Nat} (hi : i < V.length) (h : t ≤ nth V i) : ((d0 V t i).set i 4096).set i 0 = d0 V t (i + 1) := nth_ext (by rw [List.length_set, List.length_set, d0_len, d0_len]) fun j hj => by
  rw [List.length_set, List.length_set, d0_len] at hj
  rw [nth_put (by rw [List.length_set, d0_len]; exact hi), nth_put (by rw [d0_len]; exact hi), d0_at hj, d0_at hj]
  by_cases e : j = i
  · subst e; rw [if_pos rfl, if_pos (Nat.lt_succ_self _), if_pos h]
  · rw [if_neg e, if_neg e]
    by_cases c : j < i
    · rw [if_pos c, if_pos (show j < i + 1 by omega)]
    · rw [if_neg c, if_neg (show ¬ j < i + 1 by omega)]
theorem d0_lo {V : List Int} {a : Nat} {t : Int} : DLo V (d0 V t V.length) a t := ⟨d0_len, fun k hk => by
  rw [d0_at hk, if_pos hk]
  by_cases h : t ≤ nth V k
  · rw [if_pos h]
    exact ⟨by omega, by omega, .inr ⟨k, ⟨hk, h⟩, by rw [l1_self]; omega⟩⟩
  · rw [if_neg h]
    exact ⟨by omega, by omega, .inl rfl⟩⟩
theorem d0_fw {V : List Int} {a : Nat} {t : Int} : DFw V (d0 V t V.length) a t 0 := ⟨fun k hk => by rw [d0_at hk.1, if_pos hk.1, if_pos hk.2], fun k hk => absurd hk (Nat.not_lt_zero _)⟩
/-- a place is taken lower -/
def lowD (D : List Int) (i j : Nat) : List Int := D.set i (min (nth D i) (nth D j + 1))
theorem lowD_len {D : List Int} {i j : Nat} : (lowD D i j).length = D.length := by unfold lowD; rw [List.length_set]
def lowIf (c : Prop) [Decidable c] (D : List Int) (i j : Nat) : List Int := if c then lowD D i j else D
theorem lowIf_le {c : Prop} [Decidable c] {D : List Int} {i j k : Nat} (hi : i < D.length) : nth (lowIf c D i j) k ≤ nth D k := by
  unfold lowIf
  split
  · exact lower_le hi
  · exact Int.le_refl _
theorem lowIf_ne {c : Prop} [Decidable c] {D : List Int} {i j k : Nat} (hi : i < D.length) (hk : k ≠ i) : nth (lowIf c D i j) k = nth D k := by
  unfold lowIf
  split
  · unfold lowD; rw [nth_set' hi, if_neg hk]
  · rfl
theorem lowIf_at {c : Prop} [Decidable c] {D : List Int} {i j : Nat} (hi : i < D.length) (hc : c) : nth (lowIf c D i j) i ≤ nth D j + 1 := by
  unfold lowIf
  rw [if_pos hc]
  exact lower_at hi
theorem lowIf_len {c : Prop} [Decidable c] {D : List Int} {i j : Nat} : (lowIf c D i j).length = D.length := by
  unfold lowIf
  split
  · exact lowD_len
  · rfl
theorem lowIf_lo {c : Prop} [Decidable c] {V D : List Int} {a i j : Nat} {t : Int} (H : DLo V D a t) (hi : i < V.length) (hj : c → j < V.length ∧ l1 a i j = 1) : DLo V (lowIf c D i j) a t := by
  unfold lowIf
  split
  · rename_i hc
    exact H.lower hi (hj hc).1 (hj hc).2
  · exact H
theorem lowIf_t {c : Prop} [Decidable c] {D : List Int} {i j : Nat} (h : c) : lowIf c D i j = lowD D i j := if_pos h
theorem lowIf_f {c : Prop} [Decidable c] {D : List Int} {i j : Nat} (h : ¬ c) : lowIf c D i j = D := if_neg h
/-- what is known between two rounds of the first sweep, and of the second -/
def FwI (V D : List Int) (a : Nat) (t : Int) (i : Nat) : Prop := DLo V D a t ∧ DFw V D a t i
def BwI (V D : List Int) (a : Nat) (t : Int) (i : Nat) : Prop := DLo V D a t ∧ DBw V D a t i
theorem fw_round {V D : List Int} {a i : Nat} {t : Int} (H : FwI V D a t i) (ha : 0 < a) (hi : i < V.length) : FwI V (lowIf (0 < i % a) (lowIf (a ≤ i) D i (i - a)) i (i - 1)) a t (i + 1) := by
  obtain ⟨L, F⟩ := H
  have hD : i < D.length := by rw [L.1]; exact hi
  have hD1 : i < (lowIf (a ≤ i) D i (i - a)).length := by rw [lowIf_len]; exact hD
  have L1 : DLo V (lowIf (a ≤ i) D i (i - a)) a t := lowIf_lo L hi fun h => ⟨by omega, l1_up ha h⟩
  have L2 : DLo V (lowIf (0 < i % a) (lowIf (a ≤ i) D i (i - a)) i (i - 1)) a t := lowIf_lo L1 hi fun h => ⟨by omega, l1_left ha h⟩
  refine ⟨L2, ?_⟩
  have hle : ∀ k, nth (lowIf (0 < i % a) (lowIf (a ≤ i) D i (i - a)) i (i - 1)) k ≤ nth D k := fun k => Int.le_trans (lowIf_le hD1) (lowIf_le hD)
  refine (F.le hle fun k hk => (L2.2 k hk).1).step ha hi (fun h => ?_) (fun h => ?_)
  · have e1 : nth (lowIf (0 < i % a) (lowIf (a ≤ i) D i (i - a)) i (i - 1)) (i - a) = nth D (i - a) := by
      rw [lowIf_ne hD1 (by omega), lowIf_ne hD (by omega)]
    rw [e1]
    exact Int.le_trans (lowIf_le hD1) (lowIf_at hD h)
  · have hip : 0 < i := by
      rcases Nat.eq_zero_or_pos i with h0 | h0
      · rw [h0, Nat.zero_mod] at h; exact absurd h (Nat.lt_irrefl _)
      · exact h0
    have e1 : nth (lowIf (0 < i % a) (lowIf (a ≤ i) D i (i - a)) i (i - 1)) (i - 1) = nth (lowIf (a ≤ i) D i (i - a)) (i - 1) := lowIf_ne hD1 (by omega)
    rw [e1]
    exact lowIf_at hD1 h
theorem l1_down {a i : Nat} (ha : 0 < a) : l1 a i (i + a) = 1 := by
  have h := l1_up (a := a) (i := i + a) ha (by omega)
  rw [Nat.add_sub_cancel] at h
  rw [l1_comm]; exact h
theorem mod_succ {a i : Nat} (h : i % a + 1 < a) : (i + 1) % a = i % a + 1 := by
  have e := of_div (rfl : i / a = _) (rfl : i % a = _)
  exact (div_of (a := a) (x := i % a + 1) (y := i / a) (i := i + 1) h (by omega)).2
theorem l1_right {a i : Nat} (ha : 0 < a) (h : i % a + 1 < a) : l1 a i (i + 1) = 1 := by
  have h := l1_left (a := a) (i := i + 1) ha (by rw [mod_succ h]; omega)
  rw [Nat.add_sub_cancel] at h
  rw [l1_comm]; exact h
theorem bw_round {V D : List Int} {a h i : Nat} {t : Int} (H : BwI V D a t (i + 1)) (ha : 0 < a) (hV : V.length = a * h) (hi : i < V.length) : BwI V (lowIf (i % a < a - 1) (lowIf (i + a < V.length) D i (i + a)) i (i + 1)) a t i := by
  obtain ⟨L, F⟩ := H
  have hD : i < D.length := by rw [L.1]; exact hi
  have hr : i % a < a - 1 → i + 1 < V.length := fun h1 => by
    obtain ⟨_, c2, c3⟩ := cell_parts (n := a) (m := h) (by rw [← hV]; exact hi)
    have := cell_lt (a := a) (h := h) (x := i % a + 1) (y := i / a) (by omega) c2
    rw [hV]; omega
  have hD1 : i < (lowIf (i + a < V.length) D i (i + a)).length := by rw [lowIf_len]; exact hD
  have L1 : DLo V (lowIf (i + a < V.length) D i (i + a)) a t := lowIf_lo L hi fun h => ⟨h, l1_down ha⟩
  have L2 : DLo V (lowIf (i % a < a - 1) (lowIf (i + a < V.length) D i (i + a)) i (i + 1)) a t := lowIf_lo L1 hi fun h => ⟨hr h, l1_right ha (by omega)⟩
  refine ⟨L2, ?_⟩
  have hle : ∀ k, nth (lowIf (i % a < a - 1) (lowIf (i + a < V.length) D i (i + a)) i (i + 1)) k ≤ nth D k := fun k => Int.le_trans (lowIf_le hD1) (lowIf_le hD)
  have h0 : ∀ k, k < V.length → 0 ≤ nth (lowIf (i % a < a - 1) (lowIf (i + a < V.length) D i (i + a)) i (i + 1)) k := fun k hk => (L2.2 k hk).1
  have F' : DBw V (lowIf (i % a < a - 1) (lowIf (i + a < V.length) D i (i + a)) i (i + 1)) a t (i + 1) := ⟨F.1.le hle h0, fun k h1 h2 s h3 => Int.le_trans (hle k) (F.2 k h1 h2 s h3)⟩
  refine F'.step ha hV hi (fun h => ?_) (fun h => ?_)
  · have e1 : nth (lowIf (i % a < a - 1) (lowIf (i + a < V.length) D i (i + a)) i (i + 1)) (i + a) = nth D (i + a) := by
      rw [lowIf_ne hD1 (by omega), lowIf_ne hD (by omega)]
    rw [e1]
    exact Int.le_trans (lowIf_le hD1) (lowIf_at hD h)
  · have e1 : nth (lowIf (i % a < a - 1) (lowIf (i + a < V.length) D i (i + a)) i (i + 1)) (i + 1) = nth (lowIf (i + a < V.length) D i (i + a)) (i + 1) := lowIf_ne hD1 (by omega)
    rw [e1]
    exact lowIf_at hD1 (by omega)
theorem FwI.bw {V D : List Int} {a : Nat} {t : Int} (H : FwI V D a t V.length) : BwI V D a t V.length := ⟨H.1, H.2, fun k h1 h2 => absurd h2 (Nat.not_lt.2 h1)⟩
theorem BwI.ok {V D : List Int} {a : Nat} {t : Int} (H : BwI V D a t 0) : DOk V D a t := H.2.ok H.1
theorem FwI.bd {V D : List Int} {a i k : Nat} {t : Int} (H : FwI V D a t i) (hk : k < V.length) : 0 ≤ nth D k ∧ nth D k ≤ 4096 := ⟨(H.1.2 k hk).1, (H.1.2 k hk).2.1⟩
theorem BwI.bd {V D : List Int} {a i k : Nat} {t : Int} (H : BwI V D a t i) (hk : k < V.length) : 0 ≤ nth D k ∧ nth D k ≤ 4096 := ⟨(H.1.2 k hk).1, (H.1.2 k hk).2.1⟩
theorem lowD_bd {D : List Int} {n i j : Nat} (h : ∀ k, k < n → 0 ≤ nth D k ∧ nth D k ≤ 4096) (hi : i < n) (hj : j < n) (hl : D.length = n) : ∀ k, k < n → 0 ≤ nth (lowD D i j) k ∧ nth (lowD D i j) k ≤ 4096 := fun k hk => by
  unfold lowD
  rw [nth_set' (by rw [hl]; exact hi)]
  have h1 := h i hi; have h2 := h j hj
  split
  · omega
  · exact h k hk
theorem FwI.bw' {V D : List Int} {a n : Nat} {t : Int} (hl : V.length = n) (H : FwI V D a t n) : BwI V D a t n := by subst hl; exact H.bw
theorem fwI_zero {V : List Int} {a n : Nat} {t : Int} (hl : V.length = n) : FwI V (d0 V t n) a t 0 := by subst hl; exact ⟨d0_lo, d0_fw⟩
theorem right_lt {a h i : Nat} (hi : i < a * h) (c : i % a < a - 1) : i + 1 < a * h := by
  obtain ⟨_, k2, k3⟩ := cell_parts hi
  have := cell_lt (a := a) (h := h) (x := i % a + 1) (y := i / a) (by omega) k2
  omega
theorem pos_of_mod {a i : Nat} (h : 0 < i % a) : 0 < i := by
  rcases Nat.eq_zero_or_pos i with h0 | h0
  · rw [h0, Nat.zero_mod] at h; exact absurd h (Nat.lt_irrefl _)
  · exact h0
/-! the greatest of them -/
def maxL : List Int → Nat → Int
  | _, 0 => 0
  | L, 1 => nth L 0
  | L, n + 2 => max (maxL L (n + 1)) (nth L (n + 1))
theorem maxL_succ {L : List Int} {n : Nat} (h : 1 ≤ n) : max (maxL L n) (nth L n) = maxL L (n + 1) := by
  match n, h with
  | n + 1, _ => rfl
theorem maxL_ge {L : List Int} : ∀ {n k : Nat}, k < n → nth L k ≤ maxL L n
  | 0, k, h => absurd h (Nat.not_lt_zero _)
  | 1, k, h => by
    obtain rfl : k = 0 := by omega
    exact Int.le_refl _
  | n + 2, k, h => by
    unfold maxL
    by_cases e : k = n + 1
    · subst e; omega
    · have := maxL_ge (L := L) (n := n + 1) (k := k) (by omega); omega
theorem maxL_mem {L : List Int} : ∀ {n : Nat}, 1 ≤ n → ∃ k, k < n ∧ nth L k = maxL L n
  | 0, h => absurd h (by decide)
  | 1, _ => ⟨0, by decide, rfl⟩
  | n + 2, _ => by
    obtain ⟨k, h1, h2⟩ := maxL_mem (L := L) (n := n + 1) (by omega)
    unfold maxL
    by_cases c : maxL L (n + 1) ≤ nth L (n + 1)
    · exact ⟨n + 1, by omega, by omega⟩
    · exact ⟨k, by omega, by omega⟩
end Go.Proofs.Ytbhmkpnihgjlnaa
