/- Layer 6, plain: tiles. -/
import Derived.Test.YtbnjbgcadkdljaaGreatDoorPred2
import Derived.Test.YtbnjbgcadkdljaaGreatDoorMU
import Derived.Test.YtbnjbgcadkdljaaGreatDoorMQ
set_option linter.unusedVariables false
set_option linter.unusedSimpArgs false
namespace Go.Proofs.YtbnjbgcadkdljaaGreatDoor
open Go Go.RowKit
def tR (w h : Int) : Prop := 1 ≤ w ∧ w ≤ 16 ∧ 1 ≤ h ∧ h ≤ 16
instance (w h : Int) : Decidable (tR w h) := by unfold tR; infer_instance
def kOk (k : Int) : Prop := 0 ≤ k ∧ k ≤ 2
instance (k : Int) : Decidable (kOk k) := by unfold kOk; infer_instance
theorem tR_mul {w h : Int} (a : tR w h) : 1 ≤ w * h ∧ w * h ≤ 256 := by
  obtain ⟨h1, h2, h3, h4⟩ := a
  have e1 : 1 * 1 ≤ w * h := Int.mul_le_mul h1 h3 (by decide) (by omega)
  have e2 : w * h ≤ 16 * 16 := Int.mul_le_mul h2 h4 (by omega) (by decide)
  omega
theorem right4_one {k : Int} : right4 k 1 0 ↔ kOk k := by unfold right4 kOk; omega
theorem right4_w {k w h n : Int} (a : tR w h) (b : kOk k) (e : n = w * h) : right4 k w n := by
  have := tR_mul a
  refine ⟨b.1, b.2, a.1, by omega, ?_⟩
  rw [e]; exact Int.mul_emod_right _ _
def mayAll (zs : List Int) : Bool := zs.all mayB
theorem mayAll_iff {zs : List Int} : mayAll zs = true ↔ AllMay zs zs.length := by
  unfold mayAll AllMay
  rw [List.all_eq_true]
  constructor
  · intro h j hj; exact h _ (nth_mem hj)
  · intro h z hz
    obtain ⟨j, hj, rfl⟩ := List.mem_iff_getElem.1 hz
    have := h j hj
    rwa [nth_lt hj] at this
/-- errors of a tile's cells -/
def ckF (zs : List Int) (w h : Int) : Int := if ¬ (zs.length : Int) = w * h then 6 else if mayAll zs = true then 0 else 7
def tpF (kind : Int) (zs : List Int) (w h : Int) : List Int × Int :=
  if ¬ tR w h then ([], 3) else if ¬ kOk kind then ([], 11) else if ¬ ckF zs w h = 0 then ([], ckF zs w h) else (kind :: runsB (rnl (restsL kind zs w zs.length) 0), 0)
def rgF (bs : List Int) (q p : Int) : List Int × Int × Int := if q < 0 ∨ (bs.length : Int) < q ∨ p < 0 ∨ 1048576 < p then ([], 0, 11) else
  match rget bs p.toNat (p.toNat + 1) [] q.toNat false with
  | .ok (zs, m) => (zs, (m : Int), 0)
  | .error e => ([], 0, e)
theorem rgF_of {bs zs : List Int} {q p x e : Int} (h : rgP bs q p zs x e) : rgF bs q p = (zs, x, e) := by
  unfold rgF
  rcases h with ⟨hb, rfl, rfl, rfl⟩ | ⟨a, n, rfl, rfl, ha, hn, h⟩
  · unfold rgBad at hb; rw [if_pos hb]
  · rw [if_neg (by omega), Int.toNat_natCast, Int.toNat_natCast]
    rcases h with ⟨m, h1, rfl, rfl⟩ | ⟨h1, rfl, rfl, _⟩ <;> rw [h1]
def pcF (kind : Int) (rs : List Int) (w : Int) : List Int × Int := if ¬ right4 kind w rs.length then ([], 11) else
  match cellsN kind w rs rs.length with
  | none => ([], 7)
  | some cs => (cs, 0)
theorem pcF_of {kind w e : Int} {rs cs : List Int} (h : pcQ kind rs w cs e) : pcF kind rs w = (cs, e) := by
  unfold pcF
  rcases h with ⟨a, rfl, rfl⟩ | ⟨a, b, rfl, rfl⟩ | ⟨a, b, rfl⟩
  · rw [if_pos a]
  · rw [if_neg (fun q => q a), b]
  · rw [if_neg (fun q => q a), b]
def tgF (bs : List Int) (w h : Int) : List Int × Int × Int :=
  if ¬ tR w h then ([], 0, 3) else if bs.length = 0 then ([], 0, 14) else if 2 < nth bs 0 then ([], 0, 13) else
  if ¬ (rgF bs 1 (w * h)).2.2 = 0 then ([], 0, (rgF bs 1 (w * h)).2.2) else if ¬ (rgF bs 1 (w * h)).2.1 = bs.length then ([], 0, 13) else
  if ¬ (pcF (nth bs 0) (rgF bs 1 (w * h)).1 w).2 = 0 then ([], 0, (pcF (nth bs 0) (rgF bs 1 (w * h)).1 w).2) else ((pcF (nth bs 0) (rgF bs 1 (w * h)).1 w).1, nth bs 0, 0)
section
variable {bs rs cs zs : List Int} {w h x e e2 k : Int}
theorem tgF_a (a : ¬ tR w h) : tgF bs w h = ([], 0, 3) := by unfold tgF; rw [if_pos a]
theorem tgF_b (a : tR w h) (b : bs.length = 0) : tgF bs w h = ([], 0, 14) := by unfold tgF; rw [if_neg (fun q => q a), if_pos b]
theorem tgF_c (a : tR w h) (b : ¬ bs.length = 0) (c : 2 < nth bs 0) : tgF bs w h = ([], 0, 13) := by unfold tgF; rw [if_neg (fun q => q a), if_neg b, if_pos c]
theorem tgF_d (a : tR w h) (b : ¬ bs.length = 0) (c : ¬ 2 < nth bs 0) (hr : rgF bs 1 (w * h) = (rs, x, e)) (d : ¬ e = 0) : tgF bs w h = ([], 0, e) := by
  unfold tgF; rw [if_neg (fun q => q a), if_neg b, if_neg c, hr]; simp only; rw [if_pos d]
theorem tgF_e (a : tR w h) (b : ¬ bs.length = 0) (c : ¬ 2 < nth bs 0) (hr : rgF bs 1 (w * h) = (rs, x, e)) (d : e = 0) (f : ¬ x = bs.length) : tgF bs w h = ([], 0, 13) := by
  unfold tgF; rw [if_neg (fun q => q a), if_neg b, if_neg c, hr]; simp only; rw [if_neg (fun q => q d), if_pos f]
theorem tgF_f (a : tR w h) (b : ¬ bs.length = 0) (c : ¬ 2 < nth bs 0) (hr : rgF bs 1 (w * h) = (rs, x, e)) (d : e = 0) (f : x = bs.length) (hc : pcF (nth bs 0) rs w = (cs, e2)) (g : ¬ e2 = 0) : tgF bs w h = ([], 0, e2) := by
  unfold tgF; rw [if_neg (fun q => q a), if_neg b, if_neg c, hr]; simp only; rw [if_neg (fun q => q d), if_neg (fun q => q f), hc]; simp only; rw [if_pos g]
theorem tgF_g (a : tR w h) (b : ¬ bs.length = 0) (c : ¬ 2 < nth bs 0) (hr : rgF bs 1 (w * h) = (rs, x, e)) (d : e = 0) (f : x = bs.length) (hc : pcF (nth bs 0) rs w = (cs, e2)) (g : e2 = 0) : tgF bs w h = (cs, nth bs 0, 0) := by
  unfold tgF; rw [if_neg (fun q => q a), if_neg b, if_neg c, hr]; simp only; rw [if_neg (fun q => q d), if_neg (fun q => q f), hc]; simp only; rw [if_neg (fun q => q g)]
theorem tpF_a (a : ¬ tR w h) : tpF k zs w h = ([], 3) := by unfold tpF; rw [if_pos a]
theorem tpF_b (a : tR w h) (b : ¬ kOk k) : tpF k zs w h = ([], 11) := by unfold tpF; rw [if_neg (fun q => q a), if_pos b]
theorem tpF_c (a : tR w h) (b : kOk k) (c : ¬ ckF zs w h = 0) : tpF k zs w h = ([], ckF zs w h) := by unfold tpF; rw [if_neg (fun q => q a), if_neg (fun q => q b), if_pos c]
theorem tpF_d (a : tR w h) (b : kOk k) (c : ckF zs w h = 0) : tpF k zs w h = (k :: runsB (rnl (restsL k zs w zs.length) 0), 0) := by unfold tpF; rw [if_neg (fun q => q a), if_neg (fun q => q b), if_neg (fun q => q c)]
theorem ckF_6 (a : ¬ (zs.length : Int) = w * h) : ckF zs w h = 6 := by unfold ckF; rw [if_pos a]
theorem ckF_7 (a : (zs.length : Int) = w * h) (b : ¬ AllMay zs zs.length) : ckF zs w h = 7 := by unfold ckF; rw [if_neg (fun q => q a), if_neg (fun q => b (mayAll_iff.1 q))]
theorem ckF_0 (a : (zs.length : Int) = w * h) (b : AllMay zs zs.length) : ckF zs w h = 0 := by unfold ckF; rw [if_neg (fun q => q a), if_pos (mayAll_iff.2 b)]
theorem ckF_ok (a : ckF zs w h = 0) : (zs.length : Int) = w * h ∧ AllMay zs zs.length := by
  unfold ckF at a
  split at a
  · cases a
  · rename_i h1
    split at a
    · rename_i h2; exact ⟨Classical.not_not.1 h1, mayAll_iff.1 h2⟩
    · cases a
end
theorem rgP_len {bs zs : List Int} {q p x e : Int} (hB : okB bs) (h : rgP bs q p zs x e) : (zs.length = 0 ∧ ¬ e = 0) ∨ ((zs.length : Int) = p ∧ allI zs ∧ e = 0 ∧ x ≤ bs.length) := by
  rcases h with ⟨hb, rfl, rfl, rfl⟩ | ⟨a, n, rfl, rfl, ha, hn, h⟩
  · exact .inl ⟨rfl, by decide⟩
  · rcases h with ⟨m, h1, rfl, rfl⟩ | ⟨h1, rfl, rfl, he⟩
    · obtain ⟨t, e1, e2, e3, e4, e5, _, e7⟩ := rget_got bs n hB (by omega) (n + 1) [] a false zs m ha (Nat.zero_le _) h1
      simp only [List.nil_append] at e1
      subst e1
      exact .inr ⟨by omega, e7, rfl, by omega⟩
    · exact .inl ⟨rfl, he⟩
/-- got, then put -/
theorem tile_again {bs zs : List Int} {w h k : Int} (hB : okB bs) (g : tgF bs w h = (zs, k, 0)) : tpF k zs w h = (bs, 0) := by
  unfold tgF at g
  split at g
  · cases g
  rename_i a
  have a := Classical.not_not.1 a
  split at g
  · cases g
  rename_i b
  split at g
  · cases g
  rename_i c
  split at g
  · rename_i d; simp only [Prod.mk.injEq] at g; exact absurd g.2.2 d
  rename_i d
  split at g
  · cases g
  rename_i f
  split at g
  · rename_i d'; simp only [Prod.mk.injEq] at g; exact absurd g.2.2 d'
  rename_i d'
  have d := Classical.not_not.1 d
  have f := Classical.not_not.1 f
  have d' := Classical.not_not.1 d'
  simp only [Prod.mk.injEq] at g
  obtain ⟨g1, rfl, _⟩ := g
  have hmul := tR_mul a
  have hb0 := okB_nth hB (i := 0) (by omega)
  have hk : kOk (nth bs 0) := ⟨hb0.1, by omega⟩
  unfold rgF at d f g1 d'
  rw [if_neg (by omega)] at d f g1 d'
  cases hg : rget bs (w * h).toNat ((w * h).toNat + 1) [] (1 : Int).toNat false with
  | error e =>
    rw [hg] at d f g1 d'
    simp only at f
    omega
  | ok r =>
    obtain ⟨rs, m⟩ := r
    rw [hg] at d f g1 d'
    simp only at d f g1 d'
    obtain ⟨t, e1, e2, e3, e4, e5, _, e7⟩ := rget_got bs _ hB (by omega) _ [] 1 false rs m (by omega) (Nat.zero_le _) hg
    simp only [List.nil_append] at e1
    subst e1
    unfold pcF at g1 d'
    split at d'
    · cases d'
    · rename_i hr4
      have hr4 := Classical.not_not.1 hr4
      rw [if_neg (fun q => q hr4)] at g1
      cases hc : cellsN (nth bs 0) w rs rs.length with
      | none => rw [hc] at d'; cases d'
      | some cs =>
        rw [hc] at g1
        simp only at g1
        subst g1
        have hcl := cellsN_len hc
        have hrest := rests_of_cells a.1 rfl hc
        have hmay := cellsN_may hc
        have hck : ckF cs w h = 0 := ckF_0 (by omega) (by rw [hcl]; exact hmay)
        rw [tpF_d a hk hck, hcl, hrest, ← e5]
        have hm : m = bs.length := by omega
        subst hm
        have : bs = nth bs 0 :: bs.drop 1 := by
          cases bs with
          | nil => exact absurd rfl b
          | cons z t => rfl
        rw [List.take_of_length_le (by rw [List.length_drop]; exact Nat.le_refl _), ← this]
end Go.Proofs.YtbnjbgcadkdljaaGreatDoor
