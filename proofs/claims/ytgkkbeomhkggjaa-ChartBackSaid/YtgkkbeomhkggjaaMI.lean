/- Texts as one: Ref9, Ref9b. -/
import Derived.Test.YtgkkbeomhkggjaaGrid2
import Derived.Test.YtgkkbeomhkggjaaMG
set_option linter.unusedVariables false
set_option linter.unusedSimpArgs false
namespace Go.Proofs.Ytgkkbeomhkggjaa
open Go Go.RowKit
theorem kfref9_1 : (Try.prog.info? 53).bind (fun i => i.zero.map Value.cells) = some (List.toArray [(.int .i64 0), (.int .i64 0), (.slice none 0 0)]) := by kernel_rfl
theorem kfref9_2 : szB Try.prog 53 3 = true := by kernel_rfl
theorem kfref9_3 : aggB Try.prog 53 3 = true := by kernel_rfl
theorem kfref9_4 : callB Try.prog 43 = true := by kernel_rfl
theorem kfref9_5 : fldB Try.prog 53 2 2 = true := by kernel_rfl
theorem kfref9_6 : oneB Try.prog 28 = true := by kernel_rfl
theorem kfref9_7 : (Try.prog.info? 2).map (fun i => (i.size, i.zero.map Value.cells)) = some (1, some (List.toArray [(.int .i64 0)])) := by kernel_rfl
theorem kfref9_8 : (Try.prog.info? 2).map (fun i => (i.zero.map (·.cells.toList), i.size, i.bytes)) = some (some [(.int .i64 0)], 1, 8) := by kernel_rfl
theorem kfref9_9 : szB Try.prog 28 1 = true := by kernel_rfl
theorem kfref9_11 : fldB Try.prog 90 0 0 = true := by kernel_rfl
theorem kfref9_12 : oneB Try.prog 2 = true := by kernel_rfl
theorem kfref9_13 : fldB Try.prog 53 0 0 = true := by kernel_rfl
theorem kfref9_14 : fldB Try.prog 90 1 1 = true := by kernel_rfl
theorem kfref9_15 : fldB Try.prog 53 1 1 = true := by kernel_rfl
theorem kfref9_16 : elB Try.prog 28 1 = true := by kernel_rfl
theorem kfref9_17 : (Try.prog.info? 27).bind (fun i => i.zero.map Value.cells) = some (List.toArray [(.int .i64 0), (.int .i64 0), (.int .i64 0), (.int .i64 0)]) := by kernel_rfl
theorem kfref9_18 : szB Try.prog 27 4 = true := by kernel_rfl
theorem kfref9_19 : aggB Try.prog 27 4 = true := by kernel_rfl
theorem kfref9_21 : fldB Try.prog 27 1 1 = true := by kernel_rfl
theorem kfref9_22 : fldB Try.prog 27 3 3 = true := by kernel_rfl
theorem kfref9_23 : fldB Try.prog 27 0 0 = true := by kernel_rfl
theorem kfref9_24 : fldB Try.prog 27 2 2 = true := by kernel_rfl
theorem kfref9_28 : elB Try.prog 125 4 = true := by kernel_rfl
theorem SzG.mul {a h : Nat} (s : SzG a h) : 1 ≤ a * h ∧ a * h ≤ 1048576 := by
  obtain ⟨h1, h2, h3, h4⟩ := s
  exact ⟨Nat.mul_le_mul h1 h3, Nat.mul_le_mul h2 h4⟩
theorem gnewC_sz {a h v : Int} (hs : ¬ (1 ≤ a ∧ a ≤ 1024 ∧ 1 ≤ h ∧ h ≤ 1024)) : gnewC a h v = 3 := if_neg hs
theorem gnewC_v {a h v : Int} (hs : 1 ≤ a ∧ a ≤ 1024 ∧ 1 ≤ h ∧ h ≤ 1024) (hv : ¬ B32 v) : gnewC a h v = 7 := by unfold gnewC; rw [if_pos hs, if_neg hv]
theorem gvalV_le {V : List Int} {a h : Nat} {x0 y0 x1 y1 : Int} (s : SzG a h) : (gvalV V a h x0 y0 x1 y1).length ≤ 1048576 := by
  by_cases hw : withinC x0 y0 x1 y1 a h = 0
  · obtain ⟨h1, h2, h3, h4⟩ := s
    have := within_zero (by omega) (by omega) (by omega) (by omega) hw
    unfold gvalV
    rw [if_pos hw, rvAll_len]
    exact Nat.le_trans (Nat.mul_le_mul (show (y1 - y0 + 1).toNat ≤ 1024 by omega) (show (x1 - x0 + 1).toNat ≤ 1024 by omega)) (by decide)
  · rw [gvalV_no hw]; exact Nat.zero_le _
theorem within_natG {a h : Nat} {x0 y0 x1 y1 : Int} (s : SzG a h) (hw : withinC x0 y0 x1 y1 a h = 0) : ∃ p0 q0 p1 q1 : Nat, x0 = p0 ∧ y0 = q0 ∧ x1 = p1 ∧ y1 = q1 ∧ p0 ≤ p1 ∧ p1 < a ∧ q0 ≤ q1 ∧ q1 < h := by
  obtain ⟨h1, h2, h3, h4⟩ := s
  have := within_zero (by omega) (by omega) (by omega) (by omega) hw
  exact ⟨x0.toNat, y0.toNat, x1.toNat, y1.toNat, by omega, by omega, by omega, by omega, by omega, by omega, by omega, by omega⟩
theorem within_inG {a h : Nat} {x y : Int} (s : SzG a h) (hi : 0 ≤ x ∧ x < a ∧ 0 ≤ y ∧ y < h) : withinC x y x y a h = 0 := by
  obtain ⟨s1, s2, s3, s4⟩ := s
  unfold withinC; simp only [insideB_not]
  rw [if_neg (by unfold wrap64; omega), if_neg (by omega), if_neg (by omega)]
theorem within_outG {a h : Nat} {x y : Int} (s : SzG a h) (hi : ¬ (0 ≤ x ∧ x < a ∧ 0 ≤ y ∧ y < h)) : withinC x y x y a h = 4 := by
  obtain ⟨s1, s2, s3, s4⟩ := s
  unfold withinC; simp only [insideB_not]
  rw [if_neg (by unfold wrap64; omega), if_pos (by omega)]
theorem row_bdG {a h x y : Nat} (s : SzG a h) (hx : x < a) (hy : y < h) : (y : Int) * (a : Int) = ((y * a : Nat) : Int) ∧ y * a + x < a * h ∧ a * h ≤ 1048576 := ⟨by rw [Int.natCast_mul], cell_lt hx hy, s.mul.2⟩

theorem cast_pred {a : Nat} (h : 1 ≤ a) : (a : Int) - 1 = ((a - 1 : Nat) : Int) := by omega
theorem tl_len {a h : Nat} (s : SzG a h) : (piecesL ⟨0, 0, (a : Int) - 1, (h : Int) - 1⟩).length = across h * across a := by
  rw [cast_pred s.1, cast_pred s.2.2.1]; exact pall_len s
/-- the i-th tile -/
theorem tl_rc {a h i : Nat} (s : SzG a h) (hi : i < across h * across a) (c : Pc) (hc : c = pcN 0 0 (a - 1) (h - 1) i) : ∀ j v, ([.int .i64 (c.u0 : Int), .int .i64 (c.v0 : Int), .int .i64 (c.u1 : Int), .int .i64 (c.v1 : Int)] : List Value)[j]? = some v → (rcells (piecesL ⟨0, 0, (a : Int) - 1, (h : Int) - 1⟩))[i * 4 + j]? = some v := by
  obtain ⟨s1, s2, s3, s4⟩ := s
  rw [cast_pred s1, cast_pred s3]
  exact pc_rc (p0 := 0) (q0 := 0) (Nat.zero_le _) (by omega) (Nat.zero_le _) (by omega) (by rw [pcs_all s1 s3]; exact hi) c hc
theorem gvalV_tile {a h i : Nat} {V : List Int} (s : SzG a h) (hi : i < across h * across a) (c : Pc) (hc : c = pcN 0 0 (a - 1) (h - 1) i) : gvalV V a h c.u0 c.v0 c.u1 c.v1 = rvAll V a (16 * (i % across a)) (16 * (i / across a)) (tw a (i % across a)) (tw h (i / across a)) ∧ 1 ≤ tw a (i % across a) * tw h (i / across a) ∧ tw a (i % across a) * tw h (i / across a) ≤ 256 := by
  obtain ⟨s1, s2, s3, s4⟩ := id s
  have hpt : i < pcs 0 0 (a - 1) (h - 1) := by rw [pcs_all s1 s3]; exact hi
  obtain ⟨c1, c2, c3, c4, c5, c6⟩ := pcN_all s1 s3 hi
  obtain ⟨k1, k2, k3, k4, k5, k6, k7, k8, k9, k10⟩ := pcN_tile (Nat.zero_le _) (Nat.zero_le _) hpt
  have hu : (pcN 0 0 (a - 1) (h - 1) i).u0 = 16 * (i % across a) := by simp only [pcN]; rw [tcol_all s1]; omega
  have hv : (pcN 0 0 (a - 1) (h - 1) i).v0 = 16 * (i / across a) := by simp only [pcN]; rw [tcol_all s1]; omega
  rw [← hc] at c1 c2 k1 k2 k3 k4 k5 k6 hu hv
  have hw : withinC c.u0 c.v0 c.u1 c.v1 a h = 0 := by
    unfold withinC; simp only [insideB_not]
    rw [if_neg (by unfold wrap64; omega), if_neg (by omega), if_neg (by omega)]
  refine ⟨?_, Nat.mul_le_mul c3 c4, Nat.mul_le_mul c5 c6⟩
  rw [gvalV_ok hw k2 k5, hu, hv, show c.u1 + 1 - 16 * (i % across a) = tw a (i % across a) by omega, show c.v1 + 1 - 16 * (i / across a) = tw h (i / across a) by omega]
theorem gflV_no {V : List Int} {a h : Nat} {i : Int} (hi : ¬ (0 ≤ i ∧ i < (across h * across a : Nat))) : gflV V a h i = (0, false) := if_neg hi
theorem gflV_ok {V : List Int} {a h i : Nat} (hi : i < across h * across a) : gflV V a h i = flS (rvAll V a (16 * (i % across a)) (16 * (i / across a)) (tw a (i % across a)) (tw h (i / across a))) (tw a (i % across a) * tw h (i / across a)) := by
  unfold gflV; rw [if_pos (by omega)]; rfl

end Go.Proofs.Ytgkkbeomhkggjaa

namespace Go.Proofs.Ytgkkbeomhkggjaa
open Go Go.RowKit
theorem kfref9b_1 : (Try.prog.info? 53).bind (fun i => i.zero.map Value.cells) = some (List.toArray [(.int .i64 0), (.int .i64 0), (.slice none 0 0)]) := by kernel_rfl
theorem kfref9b_2 : aggB Try.prog 27 4 = true := by kernel_rfl
theorem kfref9b_3 : fldB Try.prog 53 0 0 = true := by kernel_rfl
theorem kfref9b_4 : oneB Try.prog 2 = true := by kernel_rfl
theorem kfref9b_5 : fldB Try.prog 53 1 1 = true := by kernel_rfl
theorem kfref9b_7 : aggB Try.prog 53 3 = true := by kernel_rfl
theorem kfref9b_8 : szB Try.prog 53 3 = true := by kernel_rfl
theorem kfref9b_9 : callB Try.prog 43 = true := by kernel_rfl
theorem kfref9b_10 : fldB Try.prog 53 2 2 = true := by kernel_rfl
theorem kfref9b_11 : oneB Try.prog 28 = true := by kernel_rfl
theorem kfref9b_12 : (Try.prog.info? 2).map (fun i => (i.size, i.zero.map Value.cells)) = some (1, some (List.toArray [(.int .i64 0)])) := by kernel_rfl
theorem kfref9b_13 : (Try.prog.info? 2).map (fun i => (i.zero.map (·.cells.toList), i.size, i.bytes)) = some (some [(.int .i64 0)], 1, 8) := by kernel_rfl
theorem kfref9b_14 : fldB Try.prog 27 1 1 = true := by kernel_rfl
theorem kfref9b_15 : fldB Try.prog 27 3 3 = true := by kernel_rfl
theorem kfref9b_16 : fldB Try.prog 27 0 0 = true := by kernel_rfl
theorem kfref9b_17 : fldB Try.prog 27 2 2 = true := by kernel_rfl
theorem kfref9b_18 : elB Try.prog 28 1 = true := by kernel_rfl
theorem kfref9b_19 : szB Try.prog 2 1 = true := by kernel_rfl

end Go.Proofs.Ytgkkbeomhkggjaa
