/- Layer 13: the laws. -/
import Derived.Test.YtbnjbgcadkdljaaGreatDoorDir4
set_option linter.unusedVariables false
set_option linter.unusedSimpArgs false
namespace Go.Proofs.YtbnjbgcadkdljaaGreatDoor
open Go Go.RowKit
theorem dgs_num {zs : List Int} (hB : Byt zs) {p k : Nat} (h : p + k ≤ zs.length) : dgs (num zs p k) k = (zs.drop p).take k := by
  have hl : ((zs.drop p).take k).length = k := by rw [List.length_take, List.length_drop]; omega
  have := dgs_un _ ((hB.drop p).take k)
  rw [hl] at this
  exact this
theorem take_more (zs : List Int) (p k : Nat) : zs.take (p + k) = zs.take p ++ (zs.drop p).take k := List.take_add
theorem dgS_zero {zs : List Int} (hc : (dgS zs).2.2.2 = 0) : 13 ≤ zs.length ∧ zs.take 5 = magic ∧ ¬ badS (wOf zs) (hOf zs) ∧ num zs 9 4 = tilN (wOf zs) (hOf zs) ∧ baseOf zs ≤ zs.length ∧ okD zs ∧ dgS zs = (wOf zs, hOf zs, lensOf zs (nOf zs), 0) := by
  by_cases h1 : zs.length < 13
  · rw [dg_14 h1] at hc; cases hc
  by_cases h2 : zs.take 5 = magic
  · by_cases h3 : badS (wOf zs) (hOf zs)
    · rw [dg_3 h1 h2 h3] at hc; cases hc
    by_cases h4 : num zs 9 4 = tilN (wOf zs) (hOf zs)
    · by_cases h5 : (zs.length : Int) < baseOf zs
      · rw [dg_14b h1 h2 h3 h4 h5] at hc; cases hc
      by_cases h6 : okD zs
      · exact ⟨by omega, h2, h3, h4, by omega, h6, dg_ok h1 h2 h3 h4 h5 h6⟩
      · rw [dg_13b h1 h2 h3 h4 h5 h6] at hc; cases hc
    · rw [dg_6 h1 h2 h3 h4] at hc; cases hc
  · rw [dg_13 h1 h2] at hc; cases hc
theorem get_put {zs : List Int} (hB : Byt zs) (hc : (dgS zs).2.2.2 = 0) : dirS (wOf zs) (hOf zs) (lensOf zs (nOf zs)) = (zs.take (13 + 8 * nOf zs), 0) ∧ 13 + 8 * nOf zs ≤ zs.length := by
  obtain ⟨h1, h2, h3, h4, h5, h6, _⟩ := dgS_zero hc
  have htb := tilN_bd h3
  have hb' := h3
  unfold badS at hb'
  have hn : ((nOf zs : Nat) : Int) = tilN (wOf zs) (hOf zs) := by unfold nOf; omega
  have hbase : baseOf zs = 13 + 8 * tilN (wOf zs) (hOf zs) := rfl
  have hle : 13 + 8 * nOf zs ≤ zs.length := by omega
  have hL : okL (lensOf zs (nOf zs)) := by
    have := upto_bd (Nat.le_refl _) h6
    rwa [List.take_of_length_le (by rw [lensOf_len]; omega)] at this
  refine ⟨?_, hle⟩
  rw [dirS_ok h3 (by rw [lensOf_len]; exact hn) hL]
  have d5 := dgs_num hB (p := 5) (k := 2) (by omega)
  have d7 := dgs_num hB (p := 7) (k := 2) (by omega)
  have d9 := dgs_num hB (p := 9) (k := 4) (by omega)
  have hhead : headB (wOf zs) (hOf zs) = zs.take 13 := by
    unfold headB
    rw [show wOf zs - 1 = num zs 5 2 by unfold wOf; omega, show hOf zs - 1 = num zs 7 2 by unfold hOf; omega, ← h4, d5, d7, d9]
    have t1 := take_more zs 5 2
    have t2 := take_more zs 7 2
    have t3 := take_more zs 9 4
    rw [h2] at t1
    rw [t3, t2, t1]; rfl
  have key : ∀ i, i ≤ nOf zs → headB (wOf zs) (hOf zs) ++ entB (13 + 8 * tilN (wOf zs) (hOf zs)) ((lensOf zs (nOf zs)).take i) = zs.take (13 + 8 * i) := by
    intro i
    induction i with
    | zero => intro _; rw [List.take_zero, hhead]; simp [entB]
    | succ i ih =>
      intro hi
      have ih' := ih (by omega)
      obtain ⟨e1, e2, e3⟩ := h6 i (by omega)
      rw [lens_take (by omega), entB_snoc]
      have t1 := take_more zs (13 + 8 * i) 4
      have t2 := take_more zs (17 + 8 * i) 4
      rw [show 13 + 8 * (i + 1) = 17 + 8 * i + 4 by omega, t2, show 17 + 8 * i = 13 + 8 * i + 4 by omega, t1, ← ih']
      rw [show 13 + 8 * i + 4 = 17 + 8 * i by omega]
      have q1 := dgs_num hB (p := 13 + 8 * i) (k := 4) (by omega)
      have q2 := dgs_num hB (p := 17 + 8 * i) (k := 4) (by omega)
      rw [← q1, ← q2, e1]
      simp only [List.append_assoc]; rfl
  have := key (nOf zs) (Nat.le_refl _)
  rw [List.take_of_length_le (by rw [lensOf_len]; omega)] at this
  rw [this]
end Go.Proofs.YtbnjbgcadkdljaaGreatDoor
