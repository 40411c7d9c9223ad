/- Layers 2 and 5, plain: numbers and runs as bytes, there and back. -/
import Derived.Test.YtbnjbgcadkdljaaDoorRunsP
set_option linter.unusedVariables false
set_option linter.unusedSimpArgs false
namespace Go.Proofs.YtbnjbgcadkdljaaDoor
open Go Go.RowKit
/-- a number of bytes: k bytes are read, u is what they make -/
def lacc : Nat → Int → List Int → Except Int (Int × Nat)
  | _, _, [] => .error 14
  | k, u, c :: r => if (k = 9 ∧ 1 < c) ∨ (0 < k ∧ c = 0) then .error 13 else if c < 128 then .ok (u + c * 128 ^ k, k + 1) else lacc (k + 1) (u + (c - 128) * 128 ^ k) r
theorem lacc_put (rest : List Int) : ∀ (f k : Nat) (u v : Int), k + f = 9 → 0 ≤ v → v < 2 * 128 ^ f → (0 < k → 0 < v) → lacc k u (lebL f v ++ rest) = .ok (u + v * 128 ^ k, k + (lebL f v).length)
  | 0, k, u, v, hk, h0, h1, hp => by
    have hv : v < 2 := by simpa using h1
    simp only [lebL, List.cons_append, List.nil_append, lacc, List.length_singleton]
    rw [if_neg (by omega), if_pos (by omega)]
  | f + 1, k, u, v, hk, h0, h1, hp => by
    rw [lebL]
    split
    · rename_i hv
      simp only [List.cons_append, List.nil_append, lacc, List.length_singleton]
      rw [if_neg (by omega), if_pos hv]
    · rename_i hv
      simp only [List.cons_append, lacc, List.length_cons]
      rw [if_neg (by omega), if_neg (by omega), lacc_put rest f (k + 1) _ (v / 128) (by omega) (by omega) (by rw [Int.pow_succ] at h1; omega) (by omega)]
      have e : (v % 128 + 128 - 128) * 128 ^ k + v / 128 * 128 ^ (k + 1) = v * 128 ^ k := by
        have h2 : v = v % 128 + v / 128 * 128 := by omega
        rw [Int.pow_succ, show v % 128 + 128 - 128 = v % 128 by omega]
        calc v % 128 * 128 ^ k + v / 128 * (128 ^ k * 128) = (v % 128 + v / 128 * 128) * 128 ^ k := by rw [Int.add_mul, Int.mul_assoc, Int.mul_comm (128 ^ k) 128]
          _ = v * 128 ^ k := by rw [← h2]
      rw [Int.add_assoc, e]
      congr 2; omega
def okB (l : List Int) : Prop := ∀ c ∈ l, 0 ≤ c ∧ c ≤ 255
theorem okB_drop {l : List Int} (h : okB l) (n : Nat) : okB (l.drop n) := fun c hc => h c (List.mem_of_mem_drop hc)
theorem pow128 : ∀ n : Nat, (1 : Int) ≤ 128 ^ n
  | 0 => by decide
  | n + 1 => by have := pow128 n; rw [Int.pow_succ]; omega
theorem lacc_get : ∀ (bs : List Int) (k : Nat) (u x : Int) (m : Nat), okB bs → k ≤ 9 → lacc k u bs = .ok (x, m) →
    ∃ v, x = u + v * 128 ^ k ∧ 0 ≤ v ∧ v < 2 * 128 ^ (9 - k) ∧ (0 < k → 0 < v) ∧ k < m ∧ m ≤ 10 ∧ m - k ≤ bs.length ∧ bs.take (m - k) = lebL (9 - k) v
  | [], k, u, x, m, _, _, h => by simp [lacc] at h
  | c :: r, k, u, x, m, hb, hk, h => by
    have hc := hb c List.mem_cons_self
    rw [lacc] at h
    split at h
    · cases h
    · rename_i hn
      split at h
      · rename_i h128
        simp only [Except.ok.injEq, Prod.mk.injEq] at h
        obtain ⟨rfl, rfl⟩ := h
        refine ⟨c, rfl, hc.1, ?_, by omega, by omega, by omega, by simp only [List.length_cons]; omega, ?_⟩
        · by_cases h9 : k = 9
          · subst h9; simp; omega
          · obtain ⟨j, hj⟩ : ∃ j, 9 - k = j + 1 := ⟨8 - k, by omega⟩
            have := pow128 j
            rw [hj, Int.pow_succ]; omega
        · rw [show k + 1 - k = 0 + 1 by omega, List.take_succ_cons, List.take_zero, lebL_end h128]
      · rename_i h128
        have hk9 : k + 1 ≤ 9 := by omega
        obtain ⟨v, e1, e2, e3, e4, e5, e6, e7, e8⟩ := lacc_get r (k + 1) _ x m (fun c h => hb c (List.mem_cons_of_mem _ h)) hk9 h
        have hv := e4 (by omega)
        have hj : 9 - k = (9 - (k + 1)) + 1 := by omega
        have hd : (c - 128 + 128 * v) / 128 = v := by omega
        have hm : (c - 128 + 128 * v) % 128 = c - 128 := by omega
        refine ⟨c - 128 + 128 * v, ?_, by omega, ?_, by omega, by omega, e6, ?_, ?_⟩
        · rw [e1, Int.pow_succ, Int.add_mul, Int.add_assoc]
          congr 2
          rw [Int.mul_comm (128 ^ k) 128, ← Int.mul_assoc, Int.mul_comm v 128]
        · rw [hj, Int.pow_succ]; omega
        · simp only [List.length_cons]; omega
        · rw [hj, lebL_more (by omega), hd, hm, show m - k = (m - (k + 1)) + 1 by omega, List.take_succ_cons, e8]
          congr 1; omega
/-- one whole number -/
theorem lacc_lebD {u : Int} (h : 0 ≤ u ∧ u < 2 * 128 ^ 9) (rest : List Int) : lacc 0 0 (lebD u ++ rest) = .ok (u, (lebD u).length) := by
  have := lacc_put rest 9 0 0 u rfl h.1 h.2 (by omega)
  unfold lebD
  rw [this]; simp
theorem lacc_of {bs : List Int} {u : Int} {m : Nat} (hb : okB bs) (h : lacc 0 0 bs = .ok (u, m)) : (0 ≤ u ∧ u < 2 * 128 ^ 9) ∧ 0 < m ∧ m ≤ 10 ∧ m ≤ bs.length ∧ bs.take m = lebD u := by
  obtain ⟨v, e1, e2, e3, e4, e5, e6, e7, e8⟩ := lacc_get bs 0 0 u m hb (by omega) h
  have : u = v := by rw [e1]; simp
  subst this
  exact ⟨⟨e2, e3⟩, e5, e6, e7, e8⟩
def unfoldU (u : Int) : Int := if u % 2 = 0 then u / 2 else -(u / 2) - 1
theorem unfold_fold (n : Int) : unfoldU (foldU n) = n := by unfold unfoldU foldU; split <;> split <;> omega
theorem fold_unfold {u : Int} (h : 0 ≤ u) : foldU (unfoldU u) = u := by unfold unfoldU foldU; split <;> split <;> omega
theorem fold_rng {n : Int} (h : -9223372036854775808 ≤ n ∧ n ≤ 9223372036854775807) : 0 ≤ foldU n ∧ foldU n < 2 * 128 ^ 9 := by unfold foldU; split <;> omega
theorem unfold_rng {u : Int} (h : 0 ≤ u ∧ u < 2 * 128 ^ 9) : -9223372036854775808 ≤ unfoldU u ∧ unfoldU u ≤ 9223372036854775807 := by unfold unfoldU; split <;> omega
theorem fold_zero {n : Int} : foldU n = 0 ↔ n = 0 := by unfold foldU; split <;> omega
theorem unfold_zero {u : Int} (h : 0 ≤ u) : unfoldU u = 0 ↔ u = 0 := by unfold unfoldU; split <;> omega
/-- rests of bytes -/
def rget (b : List Int) (n : Nat) : Nat → List Int → Nat → Bool → Except Int (List Int × Nat)
  | 0, _, _, _ => .error 99
  | f + 1, out, at_, last => if n ≤ out.length then .ok (out, at_) else
    match lacc 0 0 (b.drop at_) with
    | .error e => .error e
    | .ok (u, m) => if u ≠ 0 then rget b n f (out ++ [unfoldU u]) (at_ + m) false else if last = true then .error 13 else
      match lacc 0 0 (b.drop (at_ + m)) with
      | .error e => .error e
      | .ok (k, m') => if (n : Int) - out.length ≤ k then .error 13 else rget b n f (out ++ List.replicate (k.toNat + 1) 0) (at_ + m + m') true
def no0 (t : List Int) : Prop := ∀ z r, t = z :: r → z ≠ 0
theorem zeros_of : ∀ t : List Int, ∃ k r, t = List.replicate k 0 ++ r ∧ no0 r
  | [] => ⟨0, [], rfl, fun z r h => by cases h⟩
  | z :: t => by
    by_cases hz : z = 0
    · obtain ⟨k, r, e, h⟩ := zeros_of t
      exact ⟨k + 1, r, by rw [List.replicate_succ, List.cons_append, ← e, hz], h⟩
    · exact ⟨0, z :: t, rfl, fun z' r h => by cases h; exact hz⟩
theorem runsB_cons (r : Nat × Int) (l : List (Nat × Int)) : runsB (r :: l) = runB r.1 r.2 ++ runsB l := rfl
theorem runB_rest (z : Int) : runB 0 z = lebD (foldU z) := rfl
theorem runB_zeros (k : Nat) (z : Int) : runB (k + 1) z = 0 :: lebD (k : Int) := by
  unfold runB; rw [if_pos (by omega)]; congr 2; omega
theorem rn_zeros (k : Nat) {r : List Int} (h : no0 r) : rnl (List.replicate (k + 1) 0 ++ r) 0 = (k + 1, 0) :: rnl r 0 := by
  rw [rn_noughts, Nat.zero_add, rn_flush h]
theorem lacc_zero (r : List Int) : lacc 0 0 (0 :: r) = .ok (0, 1) := by simp [lacc]
def allI (t : List Int) : Prop := ∀ z ∈ t, -9223372036854775808 ≤ z ∧ z ≤ 9223372036854775807
theorem drop_add {α : Type} {l a c : List α} {i : Nat} (h : l.drop i = a ++ c) : l.drop (i + a.length) = c := by
  rw [← List.drop_drop, h, List.drop_left]
/-- what is put is got -/
theorem rget_put (b post : List Int) (n : Nat) (hn : n ≤ 1000000000000) : ∀ (f : Nat) (t out : List Int) (at_ : Nat) (last : Bool), n = out.length + t.length → t.length < f → allI t → b.drop at_ = runsB (rnl t 0) ++ post → (last = true → no0 t) →
    rget b n f out at_ last = .ok (out ++ t, at_ + (runsB (rnl t 0)).length)
  | 0, _, _, _, _, _, h, _, _, _ => absurd h (Nat.not_lt_zero _)
  | f + 1, [], out, at_, last, hl, _, _, _, _ => by
    rw [rget, if_pos (by rw [hl]; simp)]
    simp [rnl, runsB]
  | f + 1, z :: t, out, at_, last, hl, hf, hI, hb, h0 => by
    simp only [List.length_cons] at hl hf
    rw [rget, if_neg (by omega)]
    by_cases hz : z = 0
    · obtain ⟨k, r, e, hr⟩ := zeros_of t
      have hlast : ¬ last = true := fun q => h0 q z t rfl hz
      have et : z :: t = List.replicate (k + 1) 0 ++ r := by rw [hz, e, List.replicate_succ, List.cons_append]
      have hk : k + 1 + r.length = t.length + 1 := by have := congrArg List.length et; simp at this; omega
      rw [et, rn_zeros k hr, runsB_cons, runB_zeros, List.cons_append, List.cons_append] at hb
      have hb1 : b.drop (at_ + 1) = lebD (k : Int) ++ (runsB (rnl r 0) ++ post) := by
        rw [List.append_assoc] at hb; rw [← List.drop_drop, hb, List.drop_succ_cons, List.drop_zero]
      have hkr : (0 : Int) ≤ (k : Int) ∧ (k : Int) < 2 * 128 ^ 9 := by omega
      rw [hb, lacc_zero]
      simp only [ne_eq, not_true_eq_false, if_false]
      rw [if_neg hlast, hb1, lacc_lebD hkr]
      simp only
      rw [if_neg (by omega), Int.toNat_natCast, rget_put b post n hn f r _ _ true (by simp; omega) (by omega) (fun z hz => hI z (by rw [et]; exact List.mem_append_right _ hz)) (drop_add hb1) (fun _ => hr), et, rn_zeros k hr, runsB_cons, runB_zeros]
      refine congrArg Except.ok (Prod.ext (by simp only [List.append_assoc]) ?_)
      simp only [List.length_append, List.length_cons]; omega
    · have hzI := hI z List.mem_cons_self
      rw [rn_rest hz, runsB_cons, runB_rest, List.append_assoc] at hb
      rw [hb, lacc_lebD (fold_rng hzI)]
      simp only [ne_eq]
      rw [if_pos (fun q => hz (fold_zero.1 q)), unfold_fold, rget_put b post n hn f t _ _ false (by simp; omega) (by omega) (fun z hz => hI z (List.mem_cons_of_mem _ hz)) (drop_add hb) (fun q => by cases q), rn_rest hz, runsB_cons, runB_rest]
      refine congrArg Except.ok (Prod.ext (by simp only [List.append_assoc, List.cons_append, List.nil_append]) ?_)
      simp only [List.length_append]; omega
/-- what is got is put as it was -/
theorem rget_got (b : List Int) (n : Nat) (hB : okB b) (hn : n ≤ 1000000000000) : ∀ (f : Nat) (out : List Int) (at_ : Nat) (last : Bool) (zs : List Int) (e : Nat), at_ ≤ b.length → out.length ≤ n → rget b n f out at_ last = .ok (zs, e) →
    ∃ t, zs = out ++ t ∧ zs.length = n ∧ at_ ≤ e ∧ e ≤ b.length ∧ (b.drop at_).take (e - at_) = runsB (rnl t 0) ∧ (last = true → no0 t) ∧ allI t
  | 0, _, _, _, _, _, _, _, h => by simp [rget] at h
  | f + 1, out, at_, last, zs, e, ha, ho, h => by
    rw [rget] at h
    split at h
    · rename_i hle
      simp only [Except.ok.injEq, Prod.mk.injEq] at h
      obtain ⟨rfl, rfl⟩ := h
      exact ⟨[], by simp, by omega, Nat.le_refl _, ha, by simp [rnl, runsB], (fun _ z r h => by cases h), (fun z h => by cases h)⟩
    · rename_i hlt
      cases hl : lacc 0 0 (b.drop at_) with
      | error e => rw [hl] at h; cases h
      | ok q =>
        obtain ⟨u, m⟩ := q
        rw [hl] at h
        obtain ⟨hu, hm0, hm1, hm2, hm3⟩ := lacc_of (okB_drop hB _) hl
        rw [List.length_drop] at hm2
        simp only at h
        split at h
        · rename_i hu0
          have hz0 : unfoldU u ≠ 0 := fun q => hu0 ((unfold_zero hu.1).1 q)
          obtain ⟨t, e1, e2, e3, e4, e5, e6, e7⟩ := rget_got b n hB hn f _ _ _ zs e (by omega) (by simp; omega) h
          refine ⟨unfoldU u :: t, by rw [e1]; simp, e2, by omega, e4, ?_, fun _ z r q => by cases q; exact hz0, fun z hz => ?_⟩
          · rw [rn_rest hz0, runsB_cons, runB_rest, fold_unfold hu.1, show e - at_ = m + (e - (at_ + m)) by omega, List.take_add, hm3, List.drop_drop, e5]
          · rcases List.mem_cons.1 hz with rfl | hz
            · exact unfold_rng hu
            · exact e7 z hz
        · rename_i hu0
          have hu0' : u = 0 := by simpa using hu0
          subst hu0'
          split at h
          · cases h
          · rename_i hla
            cases hl2 : lacc 0 0 (b.drop (at_ + m)) with
            | error e => rw [hl2] at h; cases h
            | ok q =>
              obtain ⟨k, m'⟩ := q
              rw [hl2] at h
              obtain ⟨hk, hn0, hn1, hn2, hn3⟩ := lacc_of (okB_drop hB _) hl2
              rw [List.length_drop] at hn2
              simp only at h
              split at h
              · cases h
              · rename_i hkn
                obtain ⟨t, e1, e2, e3, e4, e5, e6, e7⟩ := rget_got b n hB hn f _ _ _ zs e (by omega) (by simp; omega) h
                have hr := e6 rfl
                refine ⟨List.replicate (k.toNat + 1) 0 ++ t, by rw [e1]; simp, e2, by omega, e4, ?_, fun q => absurd q hla, fun z hz => ?_⟩
                · have hm3' : m = 1 := by
                    have := congrArg List.length hm3
                    rw [List.length_take, List.length_drop] at this
                    simp [lebD, lebL] at this; omega
                  subst hm3'
                  rw [rn_zeros _ hr, runsB_cons, runB_zeros, show e - at_ = 1 + (m' + (e - (at_ + 1 + m'))) by omega, List.take_add, hm3, List.drop_drop, List.take_add, hn3, List.drop_drop, e5, show ((k.toNat : Nat) : Int) = k by omega]
                  simp [lebD, lebL]
                · rcases List.mem_append.1 hz with hz | hz
                  · obtain ⟨_, rfl⟩ := List.mem_replicate.1 hz; omega
                  · exact e7 z hz
/-- how many bytes -/
theorem lebL_short : ∀ (j f : Nat) (v : Int), v < 128 ^ (j + 1) → j ≤ f → (lebL f v).length ≤ j + 1
  | j, 0, v, _, _ => by simp [lebL]
  | 0, f + 1, v, h, _ => by rw [lebL, if_pos (by simpa using h)]; simp
  | j + 1, f + 1, v, h, hj => by
    rw [lebL]
    split
    · simp
    · have := lebL_short j f (v / 128) (by rw [Int.pow_succ] at h; omega) (by omega)
      simp only [List.length_cons]; omega
theorem runB_len {k : Nat} {z : Int} : 1 ≤ (runB k z).length ∧ (runB k z).length ≤ 11 := by
  unfold runB
  split
  · have := lebL_len 9 ((k : Int) - 1); simp only [List.length_cons, lebD]; omega
  · have := lebL_len 9 (foldU z); simp only [lebD]; omega
theorem runsB_len : ∀ l : List (Nat × Int), (runsB l).length ≤ 11 * l.length
  | [] => Nat.le_refl _
  | r :: l => by
    have := runsB_len l
    have := (runB_len (k := r.1) (z := r.2)).2
    rw [runsB_cons, List.length_append, List.length_cons]; omega
theorem rn_len : ∀ (t : List Int) (k : Nat), (rnl t k).length ≤ t.length + 1 ∧ (k = 0 → (rnl t k).length ≤ t.length)
  | [], 0 => by simp [rnl]
  | [], k + 1 => by simp [rnl]
  | z :: t, 0 => by
    rw [rnl]
    split
    · have := rn_len t 1; simp only [List.length_cons]; omega
    · have := rn_len t 0; simp only [List.length_cons]; omega
  | z :: t, k + 1 => by
    rw [rnl]
    split
    · have := rn_len t (k + 2); simp only [List.length_cons]; omega
    · have := rn_len t 0; simp only [List.length_cons]; omega
theorem rn_rng : ∀ (t : List Int) (k : Nat), allI t → ∀ r ∈ rnl t k, r.1 ≤ t.length + k ∧ -9223372036854775808 ≤ r.2 ∧ r.2 ≤ 9223372036854775807
  | [], 0, _, r, h => by simp [rnl] at h
  | [], k + 1, _, r, h => by simp [rnl] at h; subst h; simp
  | z :: t, 0, hI, r, h => by
    rw [rnl] at h
    split at h
    · have := rn_rng t 1 (fun z hz => hI z (List.mem_cons_of_mem _ hz)) r h; simp only [List.length_cons]; omega
    · rcases List.mem_cons.1 h with rfl | h
      · have := hI z List.mem_cons_self; simp only [List.length_cons]; omega
      · have := rn_rng t 0 (fun z hz => hI z (List.mem_cons_of_mem _ hz)) r h; simp only [List.length_cons]; omega
  | z :: t, k + 1, hI, r, h => by
    rw [rnl] at h
    split at h
    · have := rn_rng t (k + 2) (fun z hz => hI z (List.mem_cons_of_mem _ hz)) r h; simp only [List.length_cons]; omega
    · rcases List.mem_cons.1 h with rfl | h
      · simp only [List.length_cons]; omega
      · rcases List.mem_cons.1 h with rfl | h
        · have := hI z List.mem_cons_self; simp only [List.length_cons]; omega
        · have := rn_rng t 0 (fun z hz => hI z (List.mem_cons_of_mem _ hz)) r h; simp only [List.length_cons]; omega
theorem noughts_len (n : Nat) (h : n ≤ 65535) : (runsB (rnl (List.replicate n 0) 0)).length ≤ 4 := by
  cases n with
  | zero => simp [rnl, runsB]
  | succ n =>
    have e := rn_zeros n (r := []) (fun z r h => by cases h)
    rw [List.append_nil] at e
    rw [e, runsB_cons, runB_zeros]
    have := lebL_short 2 9 (n : Int) (by omega) (by omega)
    simp only [lebD, List.length_append, List.length_cons, rnl, runsB, List.flatMap_nil, List.length_nil]; omega
theorem rests_len : ∀ (t : List Int) (k : Nat), t.length + k ≤ 1000000 → (∀ z ∈ t, -4294967295 ≤ z ∧ z ≤ 4294967295) → (runsB (rnl t k)).length ≤ 5 * (t.length + k)
  | [], 0, _, _ => by simp [rnl, runsB]
  | [], k + 1, hk, _ => by
    have := lebL_short 2 9 (k : Int) (by simp only [List.length_nil] at hk; omega) (by omega)
    rw [show rnl [] (k + 1) = [(k + 1, 0)] from rfl, runsB_cons, runB_zeros]
    simp only [lebD, List.length_append, List.length_cons, runsB, List.flatMap_nil, List.length_nil]; omega
  | z :: t, k, hk, hI => by
    simp only [List.length_cons] at hk
    have hI' : ∀ z ∈ t, -4294967295 ≤ z ∧ z ≤ 4294967295 := fun z hz => hI z (List.mem_cons_of_mem _ hz)
    by_cases hz : z = 0
    · subst hz
      have := rests_len t (k + 1) (by omega) hI'
      rw [rn_zero]; simp only [List.length_cons]; omega
    · have h1 := rests_len t 0 (by omega) hI'
      have h2 := hI z List.mem_cons_self
      have h3 := lebL_short 4 9 (foldU z) (by unfold foldU; split <;> omega) (by omega)
      have h4 : (runsB ((0, z) :: rnl t 0)).length ≤ 5 + (runsB (rnl t 0)).length := by
        rw [runsB_cons, runB_rest, List.length_append]; unfold lebD; exact Nat.add_le_add_right h3 _
      cases k with
      | zero => rw [rn_rest hz]; simp only [List.length_cons]; omega
      | succ k =>
        have h5 := lebL_short 2 9 (k : Int) (by omega) (by omega)
        have h6 : rnl (z :: t) (k + 1) = (k + 1, 0) :: (0, z) :: rnl t 0 := by simp [rnl, hz]
        rw [h6, runsB_cons, runB_zeros, List.length_append]
        simp only [lebD, List.length_cons]; omega
/-- what lies behind the noughts -/
def dz : List Int → List Int
  | [] => []
  | z :: t => if z = 0 then dz t else z :: t
theorem dz_zero {zs : List Int} {i : Nat} (hi : i < zs.length) (h : nth zs i = 0) : dz (zs.drop i) = dz (zs.drop (i + 1)) := by
  rw [List.drop_eq_getElem_cons hi, ← nth_lt hi, dz, if_pos h]
theorem dz_none {zs : List Int} {i : Nat} (h : ¬ (i < zs.length ∧ nth zs i = 0)) : dz (zs.drop i) = zs.drop i := by
  rcases Nat.lt_or_ge i zs.length with q | q
  · rw [List.drop_eq_getElem_cons q, ← nth_lt q, dz, if_neg (fun e => h ⟨q, e⟩)]
  · rw [List.drop_of_length_le q]; rfl
/-- from place i on, behind a nought or not -/
def rfrom (zs : List Int) (i : Nat) : List Int := if 0 < i ∧ nth zs (i - 1) = 0 then runsB (rnl (dz (zs.drop i)) 0) else runsB (rnl (zs.drop i) 0)
theorem rfrom_0 (zs : List Int) : rfrom zs 0 = runsB (rnl zs 0) := by simp [rfrom]
theorem rfrom_rest {zs : List Int} {i : Nat} (hi : i < zs.length) (h : nth zs i ≠ 0) : rfrom zs i = lebD (foldU (nth zs i)) ++ rfrom zs (i + 1) := by
  have e : rfrom zs i = runsB (rnl (zs.drop i) 0) := by
    unfold rfrom
    split
    · rw [dz_none (fun q => h q.2)]
    · rfl
  rw [e, rn_drop_rest hi h, runsB_cons, runB_rest]
  unfold rfrom
  rw [if_neg (fun q => h q.2)]
theorem rfrom_skip {zs : List Int} {i : Nat} (hi : i < zs.length) (h : nth zs i = 0) (hp : 0 < i ∧ nth zs (i - 1) = 0) : rfrom zs i = rfrom zs (i + 1) := by
  unfold rfrom
  rw [if_pos hp, if_pos ⟨by omega, h⟩, dz_zero hi h]
theorem rfrom_run {zs : List Int} {i k : Nat} (h : nth zs i = 0) (hp : ¬ (0 < i ∧ nth zs (i - 1) = 0)) (hk : rnl (zs.drop i) 0 = rnl (zs.drop (i + k)) k) (hz : dz (zs.drop i) = dz (zs.drop (i + k))) (hi : i < zs.length) (hn : ¬ (i + k < zs.length ∧ nth zs (i + k) = 0)) :
    1 ≤ k ∧ rfrom zs i = 0 :: lebD ((k : Int) - 1) ++ rfrom zs (i + 1) := by
  cases k with
  | zero => exact absurd ⟨hi, h⟩ hn
  | succ k =>
    refine ⟨by omega, ?_⟩
    have e : rfrom zs (i + 1) = runsB (rnl (zs.drop (i + (k + 1))) 0) := by
      unfold rfrom
      rw [if_pos ⟨by omega, h⟩, ← dz_zero hi h, hz, dz_none hn]
    rw [e]
    unfold rfrom
    rw [if_neg hp, hk, rn_drop_flush hn, runsB_cons, runB_zeros]
    congr 3; omega
end Go.Proofs.YtbnjbgcadkdljaaDoor
