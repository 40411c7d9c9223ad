/- Layer 47 without the program: what comes of three values; of three lists. -/
import Derived.Test.YtbhmkpnihgjlnaaPlain43d
set_option linter.unusedVariables false
set_option linter.unusedSimpArgs false
namespace Go.Proofs.Ytbhmkpnihgjlnaa
open Go Go.RowKit

def odd3 (v u t : Int) : Prop := ¬ u = t ∧ ¬ u = v ∧ ¬ t = v
instance {v u t : Int} : Decidable (odd3 v u t) := by unfold odd3; infer_instance
/-- of three values the merge's, by what two at odds give -/
def mgv (o : Int → Int → Int) (v u t : Int) : Int := if u = t ∨ t = v then u else if u = v then t else o u t
def oddP (V U T : List Int) (k : Nat) : Bool := decide (odd3 (nth V k) (nth U k) (nth T k))
/-- one of both is taken -/
def Takes (o : Int → Int → Int) : Prop := ∀ x y, o x y = x ∨ o x y = y
def mgf (o : Int → Int → Int) (V U T : List Int) (k : Nat) : Int := mgv o (nth V k) (nth U k) (nth T k)
def mgL (o : Int → Int → Int) (V U T : List Int) (n : Nat) : List Int := (List.range n).map (mgf o V U T)
/-- the first i of them are merged -/
def mgP (o : Int → Int → Int) (V U T : List Int) (i : Nat) : List Int := (List.range V.length).map fun k => if k < i then mgf o V U T k else nth V k
section
variable {o : Int → Int → Int} {V U T : List Int}
theorem mgL_len {n : Nat} : (mgL o V U T n).length = n := by simp [mgL]
theorem mgL_at {n k : Nat} (h : k < n) : nth (mgL o V U T n) k = mgf o V U T k := by simp [mgL, nth, List.getD, h]
theorem mgL_succ {n : Nat} : mgL o V U T n ++ [mgf o V U T n] = mgL o V U T (n + 1) := by unfold mgL; rw [List.range_succ, List.map_append]; rfl
theorem mgP_len {i : Nat} : (mgP o V U T i).length = V.length := by simp [mgP]
theorem mgP_at {i k : Nat} (h : k < V.length) : nth (mgP o V U T i) k = if k < i then mgf o V U T k else nth V k := by simp [mgP, nth, List.getD, h]
theorem mgP_zero : V = mgP o V U T 0 := nth_ext mgP_len.symm fun j hj => by rw [mgP_at hj, if_neg (Nat.not_lt_zero _)]
theorem mgP_own {i : Nat} (h : i < V.length) : nth (mgP o V U T i) i = nth V i := by rw [mgP_at h, if_neg (Nat.lt_irrefl _)]
theorem mgP_set {i : Nat} {v : Int} (hi : i < V.length) (hv : v = mgf o V U T i) : (mgP o V U T i).set i v = mgP o V U T (i + 1) := nth_ext (by rw [List.length_set, mgP_len, mgP_len]) fun j hj => by
  rw [List.length_set, mgP_len] at hj
  rw [nth_put (by rw [mgP_len]; exact hi), mgP_at hj, mgP_at hj]
  by_cases e : j = i
  · subst e; rw [if_pos rfl, if_pos (Nat.lt_succ_self _), hv]
  · rw [if_neg e]
    by_cases c : j < i
    · rw [if_pos c, if_pos (show j < i + 1 by omega)]
    · rw [if_neg c, if_neg (show ¬ j < i + 1 by omega)]
theorem mgP_all {n : Nat} (hl : V.length = n) : mgP o V U T n = mgL o V U T n := nth_ext (by rw [mgP_len, mgL_len, hl]) fun j hj => by
  rw [mgP_len, hl] at hj
  rw [mgP_at (by omega), mgL_at hj, if_pos hj]
theorem mgf_b (ho : Takes o) {k : Nat} : mgf o V U T k = nth U k ∨ mgf o V U T k = nth T k := by
  unfold mgf mgv
  split
  · exact .inl rfl
  · split
    · exact .inr rfl
    · exact ho _ _
/-- two at odds or not -/
theorem mgv_odd {v u t : Int} (h : odd3 v u t) : mgv o v u t = o u t := by
  obtain ⟨h1, h2, h3⟩ := h
  unfold mgv; rw [if_neg (by omega), if_neg h2]
theorem mgv_calm {o' : Int → Int → Int} {v u t : Int} (h : ¬ odd3 v u t) : mgv o v u t = mgv o' v u t := by
  unfold mgv
  split
  · rfl
  · split
    · rfl
    · rename_i h1 h2
      exact absurd ⟨by omega, by omega, by omega⟩ h
theorem mgv_ref {v u t : Int} (h : ¬ odd3 v u t) : mgv o v u t = if u = v then t else u := by
  unfold mgv odd3 at *
  split
  · split <;> omega
  · split <;> omega
end
theorem odd3_swap {v u t : Int} : odd3 v u t ↔ odd3 v t u := by unfold odd3; omega
theorem oddP_swap {V U T : List Int} : oddP V U T = oddP V T U := funext fun k => decide_eq_decide.2 odd3_swap
theorem mgv_swap {o : Int → Int → Int} (ho : ∀ x y, o x y = o y x) {v u t : Int} : mgv o v u t = mgv o v t u := by
  by_cases h : odd3 v u t
  · rw [mgv_odd h, mgv_odd (odd3_swap.1 h), ho]
  · rw [mgv_ref h, mgv_ref (fun k => h (odd3_swap.2 k))]
    unfold odd3 at h
    split <;> split <;> omega
theorem mgL_swap {o : Int → Int → Int} (ho : ∀ x y, o x y = o y x) {V U T : List Int} {n : Nat} : mgL o V U T n = mgL o V T U n := by
  unfold mgL mgf; exact List.map_congr_left fun k _ => mgv_swap ho
theorem selN_no {p : Nat → Bool} : ∀ {n : Nat}, selN p n = 0 → ∀ k, k < n → p k = false
  | 0, _, k, h => absurd h (Nat.not_lt_zero _)
  | n + 1, h, k, hk => by
    unfold selN at h
    split at h
    · omega
    · rename_i c
      by_cases e : k = n
      · subst e; exact Bool.eq_false_iff.2 c
      · exact selN_no h k (by omega)
theorem selN_zero {p : Nat → Bool} : ∀ {n : Nat}, (∀ k, k < n → p k = false) → selN p n = 0
  | 0, _ => rfl
  | n + 1, h => by
    unfold selN
    rw [if_neg (by rw [h n (Nat.lt_succ_self _)]; decide)]
    exact selN_zero fun k hk => h k (by omega)
theorem mgL_calm {o : Int → Int → Int} {V U T : List Int} {n : Nat} (h : selN (oddP V U T) n = 0) : mgL o V U T n = mgL o V T U n := by
  unfold mgL mgf
  refine List.map_congr_left fun k hk => ?_
  have h1 : ¬ odd3 (nth V k) (nth U k) (nth T k) := of_decide_eq_false (selN_no h k (List.mem_range.1 hk))
  rw [mgv_ref h1, mgv_ref (fun k => h1 (odd3_swap.2 k))]
  unfold odd3 at h1
  split <;> split <;> omega
theorem mgL_id {o : Int → Int → Int} {V U T W : List Int} {n : Nat} (hl : W.length = n) (h : ∀ k, k < n → mgf o V U T k = nth W k) : mgL o V U T n = W := nth_ext (by rw [mgL_len, hl]) fun j hj => by
  rw [mgL_len] at hj
  rw [mgL_at hj, h j hj]
theorem mgL_a {o : Int → Int → Int} {V U : List Int} {n : Nat} (hl : U.length = n) : mgL o V U V n = U ∧ selN (oddP V U V) n = 0 := ⟨mgL_id hl fun k _ => by unfold mgf mgv; rw [if_pos (.inr rfl)], selN_zero fun k _ => decide_eq_false (fun h => h.2.2 rfl)⟩
theorem mgL_b {o : Int → Int → Int} {V T : List Int} {n : Nat} (hl : T.length = n) : mgL o V V T n = T ∧ selN (oddP V V T) n = 0 := ⟨mgL_id hl fun k _ => by unfold mgf mgv; split <;> first | omega | rw [if_pos rfl], selN_zero fun k _ => decide_eq_false (fun h => h.2.1 rfl)⟩
theorem mgL_c {o : Int → Int → Int} {V U : List Int} {n : Nat} (hl : U.length = n) : mgL o V U U n = U ∧ selN (oddP V U U) n = 0 := ⟨mgL_id hl fun k _ => by unfold mgf mgv; rw [if_pos (.inl rfl)], selN_zero fun k _ => decide_eq_false (fun h => h.1 rfl)⟩
/-- what two at odds give, by which -/
def o0 (x _y : Int) : Int := x
def o1 (_x y : Int) : Int := y
def o2 (x y : Int) : Int := min x y
def o3 (x y : Int) : Int := max x y
def oW (which : Int) : Int → Int → Int := if which = 1 then o1 else if which = 2 then o2 else if which = 3 then o3 else o0
theorem oW_takes (which : Int) : Takes (oW which) := fun x y => by
  unfold oW o0 o1 o2 o3
  split
  · exact .inr rfl
  · split
    · show min x y = x ∨ min x y = y; omega
    · split
      · show max x y = x ∨ max x y = y; omega
      · exact .inl rfl
theorem oW_ref {which x y : Int} : oW which x y = if which = 1 ∨ (which = 2 ∧ y < x) ∨ (which = 3 ∧ y > x) then y else x := by
  unfold oW o0 o1 o2 o3
  by_cases h1 : which = 1
  · rw [if_pos h1, if_pos (.inl h1)]
  · rw [if_neg h1]
    by_cases h2 : which = 2
    · rw [if_pos h2]
      show min x y = _
      split <;> omega
    · rw [if_neg h2]
      by_cases h3 : which = 3
      · rw [if_pos h3]
        show max x y = _
        split <;> omega
      · rw [if_neg h3, if_neg (by omega)]
theorem AllB_mgL {o : Int → Int → Int} (ho : Takes o) {V U T : List Int} {n : Nat} (h1 : AllB U) (h2 : AllB T) (hu : U.length = n) (ht : T.length = n) : AllB (mgL o V U T n) := by
  intro z hz
  obtain ⟨k, hk, rfl⟩ := List.mem_map.1 hz
  have hk := List.mem_range.1 hk
  rcases mgf_b (V := V) (U := U) (T := T) ho (k := k) with e | e
  · rw [e]; exact h1 _ (nth_mem (by omega))
  · rw [e]; exact h2 _ (nth_mem (by omega))
end Go.Proofs.Ytbhmkpnihgjlnaa
