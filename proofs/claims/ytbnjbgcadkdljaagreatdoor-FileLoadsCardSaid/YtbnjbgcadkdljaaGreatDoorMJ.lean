/- Texts as one: Plain10, Paint1. -/
import Derived.Test.YtbnjbgcadkdljaaGreatDoorMI
import Derived.Test.YtbnjbgcadkdljaaGreatDoorMC
set_option linter.unusedVariables false
set_option linter.unusedSimpArgs false
namespace Go.Proofs.YtbnjbgcadkdljaaGreatDoor
open Go Go.RowKit

theorem nth_put {V : List Int} {i j : Nat} {v : Int} (h : i < V.length) : nth (V.set i v) j = if j = i then v else nth V j := by
  unfold nth
  simp only [List.getD_eq_getElem?_getD, List.getElem?_set]
  by_cases e : i = j
  · subst e; simp [h]
  · rw [if_neg e, if_neg (fun k => e k.symm)]
instance (V : List Int) : Decidable (AllB V) := by unfold AllB; infer_instance
/-- the number of a cell in a rectangle's rows -/
def rk (p0 q0 n x y : Nat) : Nat := (y - q0) * n + (x - p0)
/-- the first t values are laid -/
def layT (V : List Int) (a p0 q0 p1 q1 : Nat) (L : List Int) (t : Nat) : List Int := (List.range V.length).map fun i =>
  if (p0 ≤ i % a ∧ i % a ≤ p1 ∧ q0 ≤ i / a ∧ i / a ≤ q1) ∧ rk p0 q0 (p1 + 1 - p0) (i % a) (i / a) < t then nth L (rk p0 q0 (p1 + 1 - p0) (i % a) (i / a)) else nth V i
theorem layT_len {V : List Int} {a p0 q0 p1 q1 : Nat} {L : List Int} {t : Nat} : (layT V a p0 q0 p1 q1 L t).length = V.length := by simp [layT]
theorem layT_at {V : List Int} {a p0 q0 p1 q1 : Nat} {L : List Int} {t i : Nat} (h : i < V.length) : nth (layT V a p0 q0 p1 q1 L t) i = if (p0 ≤ i % a ∧ i % a ≤ p1 ∧ q0 ≤ i / a ∧ i / a ≤ q1) ∧ rk p0 q0 (p1 + 1 - p0) (i % a) (i / a) < t then nth L (rk p0 q0 (p1 + 1 - p0) (i % a) (i / a)) else nth V i := by
  unfold layT; simp [nth, List.getD, h]
theorem layT_zero {V : List Int} {a p0 q0 p1 q1 : Nat} {L : List Int} : layT V a p0 q0 p1 q1 L 0 = V := nth_ext layT_len fun i hi => by
  rw [layT_len] at hi
  rw [layT_at hi, if_neg (by omega)]
theorem rk_between {p0 q0 n x y r c k : Nat} (hx : p0 ≤ x) (hxn : x - p0 < n) (hy : q0 ≤ y) (hc : c + k ≤ n) : (r * n + c ≤ rk p0 q0 n x y ∧ rk p0 q0 n x y < r * n + c + k) ↔ (y = q0 + r ∧ p0 + c ≤ x ∧ x < p0 + c + k) := by
  unfold rk
  obtain ⟨j, rfl⟩ : ∃ j, y = q0 + j := ⟨y - q0, by omega⟩
  rw [show q0 + j - q0 = j by omega]
  rcases Nat.lt_trichotomy j r with h | h | h
  · have : (j + 1) * n ≤ r * n := Nat.mul_le_mul_right _ h
    rw [Nat.succ_mul] at this
    omega
  · subst h; omega
  · have : (r + 1) * n ≤ j * n := Nat.mul_le_mul_right _ h
    rw [Nat.succ_mul] at this
    omega
theorem lay_step {V L : List Int} {a h p0 q0 p1 q1 i k : Nat} (s : SzG a h) (hl : V.length = a * h) (h1 : p0 ≤ p1) (h2 : p1 < a) (h3 : q0 ≤ q1) (h4 : q1 < h) (hi : i < (q1 + 1 - q0) * (p1 + 1 - p0)) (hk : 1 ≤ k) (hc : i % (p1 + 1 - p0) + k ≤ p1 + 1 - p0) (hv : ∀ j, j < k → nth L (i + j) = nth L i) (hB : B32 (nth L i)) :
    fillC a h (p0 + i % (p1 + 1 - p0) : Nat) (q0 + i / (p1 + 1 - p0) : Nat) ((p0 + i % (p1 + 1 - p0) + k - 1 : Nat) : Int) (q0 + i / (p1 + 1 - p0) : Nat) (nth L i) = 0 ∧ fillV (layT V a p0 q0 p1 q1 L i) a h (p0 + i % (p1 + 1 - p0) : Nat) (q0 + i / (p1 + 1 - p0) : Nat) ((p0 + i % (p1 + 1 - p0) + k - 1 : Nat) : Int) (q0 + i / (p1 + 1 - p0) : Nat) (nth L i) = layT V a p0 q0 p1 q1 L (i + k) := by
  obtain ⟨s1, s2, s3, s4⟩ := id s
  have hr : i / (p1 + 1 - p0) < q1 + 1 - q0 := Nat.div_lt_of_lt_mul (by rw [Nat.mul_comm]; exact hi)
  have ei := of_div (rfl : i / (p1 + 1 - p0) = _) (rfl : i % (p1 + 1 - p0) = _)
  generalize i % (p1 + 1 - p0) = c at *
  generalize i / (p1 + 1 - p0) = r at *
  have hw : withinC ((p0 + c : Nat) : Int) ((q0 + r : Nat) : Int) ((p0 + c + k - 1 : Nat) : Int) ((q0 + r : Nat) : Int) a h = 0 := by
    unfold withinC; simp only [insideB_not]
    rw [if_neg (by unfold wrap64; omega), if_neg (by omega), if_neg (by omega)]
  refine ⟨fillC_ok hw hB, ?_⟩
  rw [fillV_ok hw hB]
  refine nth_ext (by unfold fillL; rw [fl_len, layT_len, layT_len]) fun m hm => ?_
  unfold fillL at hm ⊢
  rw [fl_len, layT_len] at hm
  rw [fl_at (by rw [layT_len]; exact hm), layT_at hm, layT_at hm]
  have key : (p0 ≤ m % a ∧ m % a ≤ p1 ∧ q0 ≤ m / a ∧ m / a ≤ q1) → ((i ≤ rk p0 q0 (p1 + 1 - p0) (m % a) (m / a) ∧ rk p0 q0 (p1 + 1 - p0) (m % a) (m / a) < i + k) ↔ (m / a = q0 + r ∧ p0 + c ≤ m % a ∧ m % a < p0 + c + k)) := fun hR => by
    have := rk_between (p0 := p0) (q0 := q0) (n := p1 + 1 - p0) (x := m % a) (y := m / a) (r := r) (c := c) (k := k) hR.1 (by omega) hR.2.2.1 hc
    rw [← ei] at this
    exact this
  have hin : inF a (p0 + c) (p0 + c + k - 1) (q0 + r) (q0 + r + 1) (p0 + c) m ↔ (m / a = q0 + r ∧ p0 + c ≤ m % a ∧ m % a < p0 + c + k) := by
    unfold inF
    generalize m / a = y
    generalize m % a = x
    omega
  simp only [hin]
  by_cases hR : p0 ≤ m % a ∧ m % a ≤ p1 ∧ q0 ≤ m / a ∧ m / a ≤ q1
  · have k1 := key hR
    by_cases hF : m / a = q0 + r ∧ p0 + c ≤ m % a ∧ m % a < p0 + c + k
    · rw [if_pos hF]
      obtain ⟨e1, e2⟩ := k1.2 hF
      rw [if_pos ⟨hR, e2⟩]
      have := hv (rk p0 q0 (p1 + 1 - p0) (m % a) (m / a) - i) (by omega)
      rw [← this]
      congr 1; omega
    · rw [if_neg hF]
      have k2 : ¬ (i ≤ rk p0 q0 (p1 + 1 - p0) (m % a) (m / a) ∧ rk p0 q0 (p1 + 1 - p0) (m % a) (m / a) < i + k) := fun k => hF (k1.1 k)
      by_cases hlt : rk p0 q0 (p1 + 1 - p0) (m % a) (m / a) < i
      · rw [if_pos ⟨hR, hlt⟩, if_pos ⟨hR, by omega⟩]
      · rw [if_neg (fun k => hlt k.2), if_neg (fun k => k2 ⟨by omega, k.2⟩)]
  · rw [if_neg (fun hF => hR (by omega)), if_neg (fun k => hR k.1), if_neg (fun k => hR k.1)]
/-- all values laid -/
def layV (V : List Int) (a : Nat) (x0 y0 x1 y1 : Int) (L : List Int) : List Int := layT V a x0.toNat y0.toNat x1.toNat y1.toNat L L.length
theorem layV_nat {V L : List Int} {a p0 q0 p1 q1 : Nat} : layV V a p0 q0 p1 q1 L = layT V a p0 q0 p1 q1 L L.length := rfl
/-! the code of Paste, and of From -/
def pasteC (a h : Nat) (x0 y0 x1 y1 : Int) (L : List Int) : Int := if withinC x0 y0 x1 y1 a h = 0 then (if (L.length : Int) = areaI x0 y0 x1 y1 then (if AllB L then 0 else 7) else 6) else withinC x0 y0 x1 y1 a h
def pasteV (V : List Int) (a h : Nat) (x0 y0 x1 y1 : Int) (L : List Int) : List Int := if pasteC a h x0 y0 x1 y1 L = 0 then layV V a x0 y0 x1 y1 L else V
theorem pasteC_w {a h : Nat} {x0 y0 x1 y1 : Int} {L : List Int} (hw : ¬ withinC x0 y0 x1 y1 a h = 0) : pasteC a h x0 y0 x1 y1 L = withinC x0 y0 x1 y1 a h := if_neg hw
theorem pasteC_n {a h : Nat} {x0 y0 x1 y1 : Int} {L : List Int} (hw : withinC x0 y0 x1 y1 a h = 0) (hn : ¬ (L.length : Int) = areaI x0 y0 x1 y1) : pasteC a h x0 y0 x1 y1 L = 6 := by unfold pasteC; rw [if_pos hw, if_neg hn]
theorem pasteC_v {a h : Nat} {x0 y0 x1 y1 : Int} {L : List Int} (hw : withinC x0 y0 x1 y1 a h = 0) (hn : (L.length : Int) = areaI x0 y0 x1 y1) (hv : ¬ AllB L) : pasteC a h x0 y0 x1 y1 L = 7 := by unfold pasteC; rw [if_pos hw, if_pos hn, if_neg hv]
theorem pasteC_ok {a h : Nat} {x0 y0 x1 y1 : Int} {L : List Int} (hw : withinC x0 y0 x1 y1 a h = 0) (hn : (L.length : Int) = areaI x0 y0 x1 y1) (hv : AllB L) : pasteC a h x0 y0 x1 y1 L = 0 := by unfold pasteC; rw [if_pos hw, if_pos hn, if_pos hv]
theorem pasteV_no {V : List Int} {a h : Nat} {x0 y0 x1 y1 : Int} {L : List Int} (hc : ¬ pasteC a h x0 y0 x1 y1 L = 0) : pasteV V a h x0 y0 x1 y1 L = V := if_neg hc
theorem pasteV_ok {V : List Int} {a h : Nat} {x0 y0 x1 y1 : Int} {L : List Int} (hc : pasteC a h x0 y0 x1 y1 L = 0) : pasteV V a h x0 y0 x1 y1 L = layV V a x0 y0 x1 y1 L := if_pos hc
/-! the first value that may not be -/
def ixB (L : List Int) : Int := match (List.range L.length).find? (fun j => decide (¬ B32 (nth L j))) with | some j => (j : Int) | none => -1
theorem ixB_at {L : List Int} {i : Nat} (h : ∀ j, j < i → B32 (nth L j)) (hi : i < L.length) (hne : ¬ B32 (nth L i)) : ixB L = (i : Int) := by
  have : (List.range L.length).find? (fun j => decide (¬ B32 (nth L j))) = some i := by
    rw [List.find?_range_eq_some]
    refine ⟨by simpa using hne, List.mem_range.2 hi, fun j hj => ?_⟩
    simpa using h j hj
  unfold ixB; rw [this]
theorem allB_nth {L : List Int} (h : ∀ j, j < L.length → B32 (nth L j)) : AllB L := fun x hx => by
  obtain ⟨j, hj, rfl⟩ := List.mem_iff_getElem.1 hx
  have := h j hj
  rwa [show nth L j = L[j] by simp [nth, List.getD, hj]] at this
theorem ixB_no {L : List Int} (h : ∀ j, j < L.length → B32 (nth L j)) : ixB L = -1 := by
  have : (List.range L.length).find? (fun j => decide (¬ B32 (nth L j))) = none := by
    rw [List.find?_eq_none]
    intro j hj
    simpa using h j (List.mem_range.1 hj)
  unfold ixB; rw [this]
theorem ixB_iff {L : List Int} : ixB L ≥ 0 ↔ ¬ AllB L := by
  constructor
  · intro h hA
    rw [ixB_no fun j hj => hA.at_ hj] at h
    omega
  · intro h
    unfold ixB
    split
    · omega
    · rename_i hf
      rw [List.find?_eq_none] at hf
      exact absurd (allB_nth fun j hj => by simpa using hf j (List.mem_range.2 hj)) h
end Go.Proofs.YtbnjbgcadkdljaaGreatDoor

namespace Go.Proofs.YtbnjbgcadkdljaaGreatDoor
open Go Go.RowKit
theorem kfpaint1_1 : callB Tryz.prog 65 = true := by kernel_rfl
theorem kfpaint1_2 : elB Tryz.prog 24 1 = true := by kernel_rfl
theorem kfpaint1_3 : oneB Tryz.prog 2 = true := by kernel_rfl
theorem kfpaint1_4 : callB Tryz.prog 64 = true := by kernel_rfl
theorem kfpaint1_5 : callB Tryz.prog 98 = true := by kernel_rfl
theorem kfpaint1_6 : aggB Tryz.prog 54 4 = true := by kernel_rfl
theorem kfpaint1_7 : callB Tryz.prog 99 = true := by kernel_rfl
theorem kfpaint1_8 : (Tryz.prog.info? 105).bind (fun i => i.zero.map Value.cells) = some (List.toArray [(.int .i64 0), (.int .i64 0)]) := by kernel_rfl
theorem kfpaint1_9 : szB Tryz.prog 105 2 = true := by kernel_rfl
theorem kfpaint1_10 : fldB Tryz.prog 105 0 0 = true := by kernel_rfl
theorem kfpaint1_11 : fldB Tryz.prog 54 2 2 = true := by kernel_rfl
theorem kfpaint1_12 : fldB Tryz.prog 105 1 1 = true := by kernel_rfl
theorem kfpaint1_13 : (Tryz.prog.info? 54).bind (fun i => i.zero.map Value.cells) = some (List.toArray [(.int .i64 0), (.int .i64 0), (.int .i64 0), (.int .i64 0)]) := by kernel_rfl
theorem kfpaint1_14 : callB Tryz.prog 100 = true := by kernel_rfl
theorem kfpaint1_15 : callB Tryz.prog 25 = true := by kernel_rfl
theorem kfpaint1_16 : callB Tryz.prog 62 = true := by kernel_rfl
theorem kfpaint1_17 : callB Tryz.prog 63 = true := by kernel_rfl
theorem kfpaint1_18 : callB Tryz.prog 66 = true := by kernel_rfl
theorem nthN (p0 q0 p1 q1 i : Nat) (w : World) (h1 : p0 ≤ p1) (h2 : p1 < 1024) (h3 : q0 ≤ q1) (h4 : q1 < 1024) (hi : i < (q1 + 1 - q0) * (p1 + 1 - p0)) :
    Ret Tryz.prog 99 [.agg #[.int .i64 (p0 : Int), .int .i64 (q0 : Int), .int .i64 (p1 : Int), .int .i64 (q1 : Int)], .int .i64 (i : Int)] w (fun v w' => v = .tuple #[.agg #[.int .i64 ((p0 + i % (p1 + 1 - p0) : Nat) : Int), .int .i64 ((q0 + i / (p1 + 1 - p0) : Nat) : Int)], .bool true] ∧ Below w.heap.size w w') := by
  refine ret_v (ret_elder (nth_any p0 q0 p1 q1 i w)) ?_
  have hb : nthB p0 q0 p1 q1 i = true := by
    unfold nthB
    rw [areaI_nat h1 h2 h3 h4, insideB_iff]; omega
  unfold nthX nthY
  rw [hb, if_pos rfl, if_pos rfl, show (p1 : Int) - p0 + 1 = ((p1 + 1 - p0 : Nat) : Int) by omega, ← Int.natCast_emod, ← Int.natCast_ediv, ← Int.natCast_add, ← Int.natCast_add]

set_option maxRecDepth 100000 in
theorem paintMay (v : Int) (w : World) :
    Ret Tryz.prog 65 [.int .i64 v] w (fun u w' => u = .bool (decide (B32 v)) ∧ Below w.heap.size w w') := by
  refine ret_enter Tryz.func65 rfl rfl rfl ?_
  have H0 := HS.start w
  refine cw_seq ?_
  refine cw_reg ?_
  refine ry (y_asg rfl rfl) rfl rfl ?_
  refine reg_nil ?_
  refine fn_next ?_
  refine cw_seq ?_
  refine cw_reg ?_
  refine ry (y_mov rfl rfl) rfl rfl ?_
  refine ry (y_geq rfl rfl rfl) rfl rfl ?_
  refine ry (y_mov rfl rfl) rfl rfl ?_
  refine rg_splitd (d := 5) rfl (fun h1 => ?_) (fun h1 => ?_)
  · skip
    refine rgy (y_mov rfl rfl) rfl rfl rfl rfl ?_
    refine rgy (y_leq rfl rfl rfl) rfl rfl rfl rfl ?_
    refine ry (y_pick rfl rfl rfl) rfl rfl ?_
    refine ry (y_asg rfl rfl) rfl rfl ?_
    refine reg_nil ?_
    refine fn_next ?_
    refine cw_ret ?_
    refine fn_ret1 rfl rfl ?_
    refine ⟨?_, H0.base⟩
    first | exact bdec (by unfold B32; omega) | exact bfls (by unfold B32; omega)
  · skip
    refine rg_off rfl rfl rfl rfl rfl ?_
    refine rg_off rfl rfl rfl rfl rfl ?_
    refine ry (y_pick rfl rfl rfl) rfl rfl ?_
    refine ry (y_asg rfl rfl) rfl rfl ?_
    refine reg_nil ?_
    refine fn_next ?_
    refine cw_ret ?_
    refine fn_ret1 rfl rfl ?_
    refine ⟨?_, H0.base⟩
    first | exact bdec (by unfold B32; omega) | exact bfls (by unfold B32; omega)

set_option maxRecDepth 100000 in
theorem pasteNo (v : Int) (w : World) :
    Ret Tryz.prog 64 [.int .i64 v] w (fun u w' => u = .bool (decide (¬ B32 v)) ∧ Below w.heap.size w w') := by
  refine ret_enter Tryz.func64 rfl rfl rfl ?_
  have H0 := HS.start w
  refine cw_seq ?_
  refine cw_reg ?_
  refine ry (y_asg rfl rfl) rfl rfl ?_
  refine reg_nil ?_
  refine fn_next ?_
  refine cw_seq ?_
  refine cw_reg ?_
  refine ry (y_mov rfl rfl) rfl rfl ?_
  refine reg_op (op_call (paintMay v _) rfl kfpaint1_1 ⟨rfl, trivial⟩) rfl rfl ?_
  rintro _ w2 ⟨rfl, e1⟩
  have H3 := H0.ext e1
  refine ry (y_notd rfl rfl) rfl rfl ?_
  refine ry (y_asg rfl rfl) rfl rfl ?_
  refine reg_nil ?_
  refine fn_next ?_
  refine cw_ret ?_
  refine fn_ret1 rfl rfl ?_
  exact ⟨rfl, H3.base⟩

set_option maxRecDepth 100000 in
theorem pasteIx (A : Option Addr) (n cap : Nat) (L : List Int) (w : World) (h : Rd w A (vi .i64 L)) (hl : L.length = n) (hn : n ≤ 16777216) :
    Ret Tryz.prog 98 [.slice A n cap, .func (.func 64) #[] #[]] w (fun v w' => v = .int .i64 (ixB L) ∧ Below w.heap.size w w') := by
  refine ret_enter Tryz.func98 rfl rfl rfl ?_
  have H0 := HS.start w
  refine cw_seq ?_
  refine cw_reg ?_
  refine ry (y_asg rfl rfl) rfl rfl ?_
  refine reg_nil ?_
  refine fn_next ?_
  refine cw_seq ?_
  refine cw_seq ?_
  refine cw_reg ?_
  refine ry (y_mov rfl rfl) rfl rfl ?_
  refine ry (y_len rfl Tryz.underlying24 rfl) rfl rfl ?_
  refine ry (y_mov rfl rfl) rfl rfl ?_
  refine reg_nil ?_
  refine fn_next ?_
  refine cw_block ?_
  refine cw_loopJ [4, 5, 8, 9, 10, 11, 12, 13, 14, 15, 16, 17, 18] (fun M wl ml => ∃ (i : Nat), M = [(8, .int .i64 (i : Int))] ∧ HS w wl [] ∧ (i ≤ n) ∧ (Hid (∀ j, j < i → B32 (nth L j))) ∧ ml = n - i) ⟨0, rfl, H0, Nat.zero_le _, Lib.hid (fun j hj => absurd hj (Nat.not_lt_zero _)), rfl⟩ ⟨rfl, trivial⟩ ?_
  rintro M w1 m3 ⟨i, rfl, H2, hp0, hp1, rfl⟩
  refine cw_seq ?_
  refine cw_reg ?_
  refine ry (y_lss rfl rfl rfl) rfl rfl ?_
  refine reg_nil ?_
  refine fn_next ?_
  refine cw_seq ?_
  refine cw_condd rfl (fun h4 => ?_) (fun h4 => ?_)
  · skip
    have hgi := vi_get (k := .i64) (zs := L) (i := i) (by omega)
    refine cw_skip ?_
    refine fn_next ?_
    refine cw_seq ?_
    refine cw_block ?_
    refine cw_seq ?_
    refine cw_reg ?_
    refine ry (y_mov rfl rfl) rfl rfl ?_
    refine ry (y_asg rfl rfl) rfl rfl ?_
    refine reg_nil ?_
    refine fn_next ?_
    refine cw_seq ?_
    refine cw_reg ?_
    refine ry (y_mov rfl rfl) rfl rfl ?_
    refine ry (y_mov rfl rfl) rfl rfl ?_
    refine ry (y_mov rfl rfl) rfl rfl ?_
    refine ry (y_iar (h.below H2.base) rfl rfl rfl kfpaint1_2 (rfl) (by omega) (Nat.mul_one _) (hgi)) rfl rfl ?_
    refine ry (y_ldr (h.below H2.base) rfl rfl kfpaint1_3 (hgi)) rfl rfl ?_
    refine reg_op (op_callv (fs := []) (vs := [_]) (cs := []) (pasteNo (nth L i) _) rfl kfpaint1_4 rfl ⟨rfl, trivial⟩) rfl rfl ?_
    rintro _ w6 ⟨rfl, e5⟩
    have H7 := H2.ext e5
    refine reg_nil ?_
    refine fn_next ?_
    refine cw_condd rfl (fun hne => ?_) (fun hne => ?_)
    · skip
      refine cw_seq ?_
      refine cw_reg ?_
      refine ry (y_mov rfl rfl) rfl rfl ?_
      refine ry (y_asg rfl rfl) rfl rfl ?_
      refine reg_nil ?_
      refine fn_next ?_
      refine cw_ret ?_
      refine fn_block_ret (fn_then_ret (fn_then_ret (fn_block_ret (fn_then_ret ?_))))
      refine fn_ret1 rfl rfl ?_
      rw [ixB_at hp1.out (by omega) hne]
      exact ⟨rfl, H7.base⟩
    · skip
      refine cw_skip ?_
      refine fn_block ?_
      refine fn_next ?_
      refine cw_reg ?_
      refine ry (y_add rfl rfl rfl (wi (by omega))) rfl rfl ?_
      refine ry (y_mov rfl rfl) rfl rfl ?_
      refine reg_nil ?_
      refine fn_roundJ ⟨i + 1, rfl, H7, by omega, Lib.hid (fun j hj => (Nat.lt_or_eq_of_le (Nat.le_of_lt_succ hj)).elim (hp1.out j) (fun e => e ▸ Classical.not_not.1 hne)), rfl⟩ ⟨rfl, trivial⟩ (by omega) (by repeat (first | exact kp_refl | refine kp_app rfl rfl ?_ | refine kp_cons rfl ?_)) rfl
  · skip
    obtain rfl : i = n := by omega
    refine cw_exit ?_
    refine fn_then_exit (fn_then_exit (fn_block_exit ?_))
    refine fn_next ?_
    refine cw_seq ?_
    refine cw_reg ?_
    refine ry (y_asg rfl rfl) rfl rfl ?_
    refine reg_nil ?_
    refine fn_next ?_
    refine cw_ret ?_
    refine fn_ret1 rfl rfl ?_
    rw [ixB_no (fun j hj => hp1.out j (by omega))]
    exact ⟨rfl, H2.base⟩

set_option maxRecDepth 100000 in
theorem pasteHas (A : Option Addr) (n cap : Nat) (L : List Int) (w : World) (h : Rd w A (vi .i64 L)) (hl : L.length = n) (hn : n ≤ 16777216) :
    Ret Tryz.prog 63 [.slice A n cap, .func (.func 64) #[] #[]] w (fun v w' => v = .bool (decide (¬ AllB L)) ∧ Below w.heap.size w w') := by
  refine ret_enter Tryz.func63 rfl rfl rfl ?_
  have H0 := HS.start w
  refine cw_seq ?_
  refine cw_reg ?_
  refine ry (y_asg rfl rfl) rfl rfl ?_
  refine reg_nil ?_
  refine fn_next ?_
  refine cw_seq ?_
  refine cw_reg ?_
  refine ry (y_mov rfl rfl) rfl rfl ?_
  refine ry (y_mov rfl rfl) rfl rfl ?_
  refine reg_op (op_call (pasteIx A n cap L _ (h.below H0.base) hl hn) rfl kfpaint1_5 ⟨rfl, rfl, trivial⟩) rfl rfl ?_
  rintro _ w2 ⟨rfl, e1⟩
  have H3 := H0.ext e1
  refine ry (y_geq rfl rfl rfl) rfl rfl ?_
  refine ry (y_asg rfl rfl) rfl rfl ?_
  refine reg_nil ?_
  refine fn_next ?_
  refine cw_ret ?_
  refine fn_ret1 rfl rfl ?_
  exact ⟨bdec ixB_iff, H3.base⟩

set_option maxRecDepth 100000 in
theorem gridLay (w0 : World) (l : List Ob) (g a h : Nat) (V : List Int) (bl : Nat → Prop) (p0 q0 p1 q1 : Nat) (L : List Int) (A : Option Addr) (n cap : Nat) (w : World) (s : SzG a h) (hV : V.length = a * h) (h1 : p0 ≤ p1) (h2 : p1 < a) (h3 : q0 ≤ q1) (h4 : q1 < h) (hnn : n = (q1 + 1 - q0) * (p1 + 1 - p0)) (hB : AllB L) (hr : ∀ X, HS w0 X l → Rd X A (vi .i64 L)) (hl : L.length = n) (hn : n ≤ 16777216) (H0 : HS w0 w (gOb g a h V bl :: l)) :
    Ret Tryz.prog 66 [.pointer (some ⟨g, 0, none⟩), .agg #[.int .i64 (p0 : Int), .int .i64 (q0 : Int), .int .i64 (p1 : Int), .int .i64 (q1 : Int)], .slice A n cap] w (fun z w' => ∃ bl', z = .tuple #[] ∧ HS w0 w' (gOb g a h (layV V a p0 q0 p1 q1 L) bl' :: l)) := by
  obtain ⟨s1, s2, s3, s4⟩ := id s
  have hnm : (q1 + 1 - q0) * (p1 + 1 - p0) ≤ 1024 * 1024 := Nat.mul_le_mul (by omega) (by omega)
  refine ret_enter Tryz.func66 rfl rfl rfl ?_
  refine cw_seq ?_
  refine cw_reg ?_
  refine reg_op (op_box (cs := [.int _ _, .int _ _, .int _ _, .int _ _]) H0 rfl rfl rfl) rfl rfl ?_
  rintro _ w2 ⟨b1, rfl, H3⟩
  refine reg_nil ?_
  refine fn_next ?_
  refine cw_seq ?_
  refine cw_reg ?_
  refine ry (y_asg rfl rfl) rfl rfl ?_
  refine reg_nil ?_
  refine fn_next ?_
  refine cw_block ?_
  have hz : layT V a p0 q0 p1 q1 L 0 = V := layT_zero
  have hE : HS w0 w2 (gOb g a h (layT V a p0 q0 p1 q1 L 0) bl :: Ob.blk b1 [.int .i64 (p0 : Int), .int .i64 (q0 : Int), .int .i64 (p1 : Int), .int .i64 (q1 : Int)] 54 :: l) := by rw [hz]; exact (H3.pickT (p := [_, _]) (m := [_, _]) [1, 0] rfl (by decide))
  refine cw_loopJ [6, 7, 8, 9, 10, 11, 12, 13, 14, 15, 16, 17, 18, 19, 20, 21, 22, 23, 24, 25, 26, 27, 28, 29, 30, 31, 32, 33, 34, 35, 36, 37, 38, 39, 40, 41, 42, 43, 44, 45, 46, 47, 48, 49, 50, 51, 52, 53, 54, 55, 56, 57, 58, 59, 60, 61, 62] (fun M wl ml => ∃ (i : Nat) (bl' : Nat → Prop), M = [(6, .int .i64 (i : Int))] ∧ HS w0 wl (gOb g a h (layT V a p0 q0 p1 q1 L i) bl' :: Ob.blk b1 [.int .i64 (p0 : Int), .int .i64 (q0 : Int), .int .i64 (p1 : Int), .int .i64 (q1 : Int)] 54 :: l) ∧ (i ≤ n) ∧ ml = n - i) ⟨0, _, rfl, hE, Nat.zero_le _, rfl⟩ ⟨rfl, trivial⟩ ?_
  rintro M w4 m6 ⟨i, bl', rfl, H5, hp0, rfl⟩
  refine cw_seq ?_
  refine cw_seq ?_
  refine cw_reg ?_
  refine ry (y_mov rfl rfl) rfl rfl ?_
  refine ry (y_mov rfl rfl) rfl rfl ?_
  refine ry (y_len rfl Tryz.underlying24 rfl) rfl rfl ?_
  refine ry (y_lss rfl rfl rfl) rfl rfl ?_
  refine reg_nil ?_
  refine fn_next ?_
  refine cw_condd rfl (fun h7 => ?_) (fun h7 => ?_)
  · skip
    have hi' : i < (q1 + 1 - q0) * (p1 + 1 - p0) := by omega
    have hcn : i % (p1 + 1 - p0) < (p1 + 1 - p0) := Nat.mod_lt _ (by omega)
    have hrm : i / (p1 + 1 - p0) < (q1 + 1 - q0) := Nat.div_lt_of_lt_mul (by rw [Nat.mul_comm]; exact hi')
    have ei := of_div (rfl : i / (p1 + 1 - p0) = _) (rfl : i % (p1 + 1 - p0) = _)
    have hrn : (i / (p1 + 1 - p0) + 1) * (p1 + 1 - p0) ≤ (q1 + 1 - q0) * (p1 + 1 - p0) := Nat.mul_le_mul_right _ hrm
    rw [Nat.succ_mul] at hrn
    have hg0 := vi_get (k := .i64) (zs := L) (i := i) (by omega)
    refine cw_skip ?_
    refine fn_next ?_
    refine cw_block ?_
    refine cw_seq ?_
    refine cw_reg ?_
    refine ry (y_ldb (i := 1) (cs := [_, _, _, _]) H5 rfl rfl kfpaint1_6 rfl rfl) rfl rfl ?_
    refine ry (y_mov rfl rfl) rfl rfl ?_
    refine reg_op (op_call (nthN p0 q0 p1 q1 i _ h1 (by omega) h3 (by omega) hi') rfl kfpaint1_7 ⟨rfl, rfl, trivial⟩) rfl rfl ?_
    rintro _ w9 ⟨rfl, e8⟩
    have H10 := H5.ext e8
    refine ry (y_mov rfl rfl) rfl rfl ?_
    refine ry (y_ext rfl rfl rfl) rfl rfl ?_
    refine ry (y_ext rfl rfl rfl) rfl rfl ?_
    refine reg_op (op_alloc H10 rfl kfpaint1_8) rfl rfl ?_
    rintro _ w12 ⟨b11, rfl, H13⟩
    refine reg_op (op_st (i := 0) (vs := [.int _ _, .int _ _]) H13 rfl rfl rfl rfl rfl kfpaint1_9 rfl rfl rfl) rfl rfl ?_
    rintro _ w14 H15
    refine ry (y_asg rfl rfl) rfl rfl ?_
    refine reg_nil ?_
    refine fn_next ?_
    refine cw_seq ?_
    refine cw_reg ?_
    refine ry (y_asg rfl rfl) rfl rfl ?_
    refine reg_nil ?_
    refine fn_next ?_
    refine cw_seq ?_
    refine cw_block ?_
    refine cw_loopJ [9, 20, 21, 22, 23, 24, 25, 26, 27, 28, 29, 30, 31, 32, 33, 34, 35, 36, 37, 38, 39, 40, 41] (fun M wl ml => ∃ (k : Nat), M = [(9, .int .i64 (k : Int))] ∧ HS w0 wl (gOb g a h (layT V a p0 q0 p1 q1 L i) bl' :: Ob.blk b1 [.int .i64 (p0 : Int), .int .i64 (q0 : Int), .int .i64 (p1 : Int), .int .i64 (q1 : Int)] 54 :: Ob.blk b11 [.int .i64 ((p0 + i % (p1 + 1 - p0) : Nat) : Int), .int .i64 ((q0 + i / (p1 + 1 - p0) : Nat) : Int)] 105 :: l) ∧ (1 ≤ k ∧ i % (p1 + 1 - p0) + k ≤ (p1 + 1 - p0)) ∧ (Hid (∀ j, j < k → nth L (i + j) = nth L i)) ∧ ml = 2048 - k) ⟨1, rfl, (H15.pickT (p := [_, _, _]) (m := [_, _, _]) [1, 2, 0] rfl (by decide)), ⟨Nat.le_refl _, by omega⟩, Lib.hid (fun j hj => by rw [show j = 0 by omega, Nat.add_zero]), rfl⟩ ⟨rfl, trivial⟩ ?_
    rintro M w16 m18 ⟨k, rfl, H17, hk, hkv, rfl⟩
    refine cw_seq ?_
    refine cw_seq ?_
    refine cw_draw H17 [0, 1, 2, 3, 4, 5, 6, 7, 8, 9, 10, 11, 12, 13, 14, 15, 16, 17, 18, 19] [] (fun X HX => HX) (by kernel_rfl) (by kernel_rfl) (by rfl) ?_
    simp only [pick, List.getElem?_cons_succ, List.getElem?_cons_zero]
    refine hk_y (fun Y HY => y_fa rfl rfl kfpaint1_10 rfl) rfl rfl ?_
    refine hk_y (fun Y HY => y_ld rfl rfl kfpaint1_3 (HY.cell (i := 2) rfl rfl)) rfl rfl ?_
    refine hk_y (fun Y HY => y_mov rfl rfl) rfl rfl ?_
    refine hk_y (fun Y HY => y_add rfl rfl rfl (wi (by omega))) rfl rfl ?_
    refine hk_y (fun Y HY => y_fa rfl rfl kfpaint1_11 rfl) rfl rfl ?_
    refine hk_y (fun Y HY => y_ld rfl rfl kfpaint1_3 (HY.cell (i := 1) rfl rfl)) rfl rfl ?_
    refine hk_y (fun Y HY => y_leq rfl rfl rfl) rfl rfl ?_
    refine hk_y (fun Y HY => y_mov rfl rfl) rfl rfl ?_
    refine hk_splitd tv_all (d := 27) rfl (fun h19 => ?_) (fun h19 => ?_)
    · skip
      have hg1 := vi_get (k := .i64) (zs := L) (i := i + k) (by omega)
      refine hk_on (qy_yd fun Y HY => y_mov rfl rfl) rfl rfl rfl rfl ?_
      refine hk_on (qy_yd fun Y HY => y_mov rfl rfl) rfl rfl rfl rfl ?_
      refine hk_on (qy_yd fun Y HY => y_mov rfl rfl) rfl rfl rfl rfl ?_
      refine hk_on (qy_yd fun Y HY => y_add rfl rfl rfl (show _ = ((i + k : Nat) : Int) from by rw [Int.natCast_add]; exact wi (by omega))) rfl rfl rfl rfl ?_
      refine hk_on (qy_yd fun Y HY => y_iar (i := i + k) (hr _ (HY.tail.tail.tail)) rfl rfl rfl kfpaint1_2 (rfl) (by omega) (Nat.mul_one _) (hg1)) rfl rfl rfl rfl ?_
      refine hk_on (qy_yd fun Y HY => y_ldr (hr _ (HY.tail.tail.tail)) rfl rfl kfpaint1_3 (hg1)) rfl rfl rfl rfl ?_
      refine hk_on (qy_yd fun Y HY => y_mov rfl rfl) rfl rfl rfl rfl ?_
      refine hk_on (qy_yd fun Y HY => y_mov rfl rfl) rfl rfl rfl rfl ?_
      refine hk_on (qy_yd fun Y HY => y_iar (hr _ (HY.tail.tail.tail)) rfl rfl rfl kfpaint1_2 (rfl) (by omega) (Nat.mul_one _) (hg0)) rfl rfl rfl rfl ?_
      refine hk_on (qy_yd fun Y HY => y_ldr (hr _ (HY.tail.tail.tail)) rfl rfl kfpaint1_3 (hg0)) rfl rfl rfl rfl ?_
      refine hk_on (qy_yd fun Y HY => y_eql rfl rfl rfl) rfl rfl rfl rfl ?_
      refine hk_y (fun Y HY => y_pick rfl rfl rfl) rfl rfl ?_
      refine hk_nil ?_
      intro w20 H21
      refine tv_nil ?_
      refine fn_next ?_
      refine cw_condd rfl (fun h22 => ?_) (fun h22 => ?_)
      · skip
        have heq : nth L (i + k) = nth L i := by first | assumption | omega
        refine cw_skip ?_
        refine fn_next ?_
        refine cw_block ?_
        refine cw_reg ?_
        refine ry (y_mov rfl rfl) rfl rfl ?_
        refine ry (y_add rfl rfl rfl (wi (by omega))) rfl rfl ?_
        refine ry (y_asg rfl rfl) rfl rfl ?_
        refine reg_nil ?_
        refine fn_block ?_
        refine fn_roundJ ⟨k + 1, rfl, H21, ⟨by omega, by omega⟩, Lib.hid (fun j hj => (Nat.lt_or_eq_of_le (Nat.le_of_lt_succ hj)).elim (hkv.out j) (fun e => by subst e; exact heq)), rfl⟩ ⟨rfl, trivial⟩ (by omega) (by repeat (first | exact kp_refl | refine kp_app rfl rfl ?_ | refine kp_cons rfl ?_)) rfl
      · skip
        refine cw_exit ?_
        refine fn_then_exit (fn_then_exit (fn_block_exit ?_))
        refine fn_next ?_
        refine cw_seq ?_
        refine cw_draw H21 [0, 1, 2, 3, 4, 5, 6, 7, 8, 9, 10, 11, 12, 13, 14, 15, 16] [17] (fun X HX => (HX.pickT (p := [_, _, _]) (m := [_, _]) [1, 2] rfl (by decide))) (by kernel_rfl) (by kernel_rfl) (by rfl) ?_
        simp only [pick, List.getElem?_cons_succ, List.getElem?_cons_zero]
        refine hk_y (fun Y HY => y_mov rfl rfl) rfl rfl ?_
        refine hk_y (fun Y HY => y_fa rfl rfl kfpaint1_10 rfl) rfl rfl ?_
        refine hk_y (fun Y HY => y_ld rfl rfl kfpaint1_3 (HY.cell (i := 1) rfl rfl)) rfl rfl ?_
        refine hk_y (fun Y HY => y_fa rfl rfl kfpaint1_12 rfl) rfl rfl ?_
        refine hk_y (fun Y HY => y_ld rfl rfl kfpaint1_3 (HY.cell (i := 1) rfl rfl)) rfl rfl ?_
        refine hk_y (fun Y HY => y_fa rfl rfl kfpaint1_10 rfl) rfl rfl ?_
        refine hk_y (fun Y HY => y_ld rfl rfl kfpaint1_3 (HY.cell (i := 1) rfl rfl)) rfl rfl ?_
        refine hk_y (fun Y HY => y_mov rfl rfl) rfl rfl ?_
        refine hk_y (fun Y HY => y_add rfl rfl rfl (wi (by omega))) rfl rfl ?_
        refine hk_y (fun Y HY => y_sub rfl rfl rfl (show _ = ((p0 + i % (p1 + 1 - p0) + k - 1 : Nat) : Int) from (wi (by omega)).trans (by omega))) rfl rfl ?_
        refine hk_y (fun Y HY => y_fa rfl rfl kfpaint1_12 rfl) rfl rfl ?_
        refine hk_y (fun Y HY => y_ld rfl rfl kfpaint1_3 (HY.cell (i := 1) rfl rfl)) rfl rfl ?_
        refine hk_y (fun Y HY => y_build (places := [(0, 1), (1, 1), (2, 1), (3, 1)]) (parts := [(0, _), (1, _), (2, _), (3, _)]) (vs := [(0, _), (1, _), (2, _), (3, _)]) (cs := [.int _ _, .int _ _, .int _ _, .int _ _]) rfl Tryz.underlying54 (by kernel_rfl) kfpaint1_13 rfl ⟨rfl, rfl, rfl, rfl, trivial⟩ rfl) rfl rfl ?_
        refine hk_y (fun Y HY => y_mov rfl rfl) rfl rfl ?_
        refine hk_y (fun Y HY => y_mov rfl rfl) rfl rfl ?_
        obtain ⟨hfc, hst⟩ := lay_step (V := V) s hV h1 h2 h3 h4 hi' hk.1 hk.2 hkv.out (hB.at_ (by omega))
        refine hk_y (fun Y HY => y_iar (hr _ (HY.tail.tail)) rfl rfl rfl kfpaint1_2 (rfl) (by omega) (Nat.mul_one _) (hg0)) rfl rfl ?_
        refine hk_y (fun Y HY => y_ldr (hr _ (HY.tail.tail)) rfl rfl kfpaint1_3 (hg0)) rfl rfl ?_
        refine hk_nil ?_
        intro w23 H24
        refine tv_op (op_call (gFill w0 _ g a h (layT V a p0 q0 p1 q1 L i) bl' ((p0 + i % (p1 + 1 - p0) : Nat) : Int) ((q0 + i / (p1 + 1 - p0) : Nat) : Int) ((p0 + i % (p1 + 1 - p0) + k - 1 : Nat) : Int) ((q0 + i / (p1 + 1 - p0) : Nat) : Int) (nth L i) _ H24) rfl kfpaint1_14 ⟨rfl, rfl, rfl, trivial⟩) rfl rfl ?_
        rintro _ w26 ⟨bl27, rfl, H25⟩
        refine ⟨(H25.pickT (p := [_, _, _]) (m := [_, _]) [1, 2] rfl (by decide)), fun w28 e30 => ?_⟩
        have H29 := H25.ext e30
        refine tv_nil ?_
        refine fn_next ?_
        refine cw_reg ?_
        refine ry (y_mov rfl rfl) rfl rfl ?_
        refine ry (y_mov rfl rfl) rfl rfl ?_
        refine ry (y_add rfl rfl rfl (wi (by omega))) rfl rfl ?_
        refine ry (y_asg rfl rfl) rfl rfl ?_
        refine reg_nil ?_
        refine fn_block ?_
        rw [hst] at H29
        refine fn_roundJ ⟨i + k, _, rfl, (H29.pickT (p := [_, _, _]) (m := [_, _]) [0, 1] rfl (by decide)), by omega, rfl⟩ ⟨rfl, trivial⟩ (by omega) (by repeat (first | exact kp_refl | refine kp_app rfl rfl ?_ | refine kp_cons rfl ?_)) rfl
    · skip
      refine hk_off rfl rfl rfl rfl rfl ?_
      refine hk_off rfl rfl rfl rfl rfl ?_
      refine hk_off rfl rfl rfl rfl rfl ?_
      refine hk_off rfl rfl rfl rfl rfl ?_
      refine hk_off rfl rfl rfl rfl rfl ?_
      refine hk_off rfl rfl rfl rfl rfl ?_
      refine hk_off rfl rfl rfl rfl rfl ?_
      refine hk_off rfl rfl rfl rfl rfl ?_
      refine hk_off rfl rfl rfl rfl rfl ?_
      refine hk_off rfl rfl rfl rfl rfl ?_
      refine hk_off rfl rfl rfl rfl rfl ?_
      refine hk_y (fun Y HY => y_pick rfl rfl rfl) rfl rfl ?_
      refine hk_nil ?_
      intro w31 H32
      refine tv_nil ?_
      refine fn_next ?_
      refine cw_condf rfl ?_
      refine cw_exit ?_
      refine fn_then_exit (fn_then_exit (fn_block_exit ?_))
      refine fn_next ?_
      refine cw_seq ?_
      refine cw_draw H32 [0, 1, 2, 3, 4, 5, 6, 7, 8, 9, 10, 11, 12, 13, 14, 15, 16] [17] (fun X HX => (HX.pickT (p := [_, _, _]) (m := [_, _]) [1, 2] rfl (by decide))) (by kernel_rfl) (by kernel_rfl) (by rfl) ?_
      simp only [pick, List.getElem?_cons_succ, List.getElem?_cons_zero]
      refine hk_y (fun Y HY => y_mov rfl rfl) rfl rfl ?_
      refine hk_y (fun Y HY => y_fa rfl rfl kfpaint1_10 rfl) rfl rfl ?_
      refine hk_y (fun Y HY => y_ld rfl rfl kfpaint1_3 (HY.cell (i := 1) rfl rfl)) rfl rfl ?_
      refine hk_y (fun Y HY => y_fa rfl rfl kfpaint1_12 rfl) rfl rfl ?_
      refine hk_y (fun Y HY => y_ld rfl rfl kfpaint1_3 (HY.cell (i := 1) rfl rfl)) rfl rfl ?_
      refine hk_y (fun Y HY => y_fa rfl rfl kfpaint1_10 rfl) rfl rfl ?_
      refine hk_y (fun Y HY => y_ld rfl rfl kfpaint1_3 (HY.cell (i := 1) rfl rfl)) rfl rfl ?_
      refine hk_y (fun Y HY => y_mov rfl rfl) rfl rfl ?_
      refine hk_y (fun Y HY => y_add rfl rfl rfl (wi (by omega))) rfl rfl ?_
      refine hk_y (fun Y HY => y_sub rfl rfl rfl (show _ = ((p0 + i % (p1 + 1 - p0) + k - 1 : Nat) : Int) from (wi (by omega)).trans (by omega))) rfl rfl ?_
      refine hk_y (fun Y HY => y_fa rfl rfl kfpaint1_12 rfl) rfl rfl ?_
      refine hk_y (fun Y HY => y_ld rfl rfl kfpaint1_3 (HY.cell (i := 1) rfl rfl)) rfl rfl ?_
      refine hk_y (fun Y HY => y_build (places := [(0, 1), (1, 1), (2, 1), (3, 1)]) (parts := [(0, _), (1, _), (2, _), (3, _)]) (vs := [(0, _), (1, _), (2, _), (3, _)]) (cs := [.int _ _, .int _ _, .int _ _, .int _ _]) rfl Tryz.underlying54 (by kernel_rfl) kfpaint1_13 rfl ⟨rfl, rfl, rfl, rfl, trivial⟩ rfl) rfl rfl ?_
      refine hk_y (fun Y HY => y_mov rfl rfl) rfl rfl ?_
      refine hk_y (fun Y HY => y_mov rfl rfl) rfl rfl ?_
      obtain ⟨hfc, hst⟩ := lay_step (V := V) s hV h1 h2 h3 h4 hi' hk.1 hk.2 hkv.out (hB.at_ (by omega))
      refine hk_y (fun Y HY => y_iar (hr _ (HY.tail.tail)) rfl rfl rfl kfpaint1_2 (rfl) (by omega) (Nat.mul_one _) (hg0)) rfl rfl ?_
      refine hk_y (fun Y HY => y_ldr (hr _ (HY.tail.tail)) rfl rfl kfpaint1_3 (hg0)) rfl rfl ?_
      refine hk_nil ?_
      intro w33 H34
      refine tv_op (op_call (gFill w0 _ g a h (layT V a p0 q0 p1 q1 L i) bl' ((p0 + i % (p1 + 1 - p0) : Nat) : Int) ((q0 + i / (p1 + 1 - p0) : Nat) : Int) ((p0 + i % (p1 + 1 - p0) + k - 1 : Nat) : Int) ((q0 + i / (p1 + 1 - p0) : Nat) : Int) (nth L i) _ H34) rfl kfpaint1_14 ⟨rfl, rfl, rfl, trivial⟩) rfl rfl ?_
      rintro _ w36 ⟨bl37, rfl, H35⟩
      refine ⟨(H35.pickT (p := [_, _, _]) (m := [_, _]) [1, 2] rfl (by decide)), fun w38 e40 => ?_⟩
      have H39 := H35.ext e40
      refine tv_nil ?_
      refine fn_next ?_
      refine cw_reg ?_
      refine ry (y_mov rfl rfl) rfl rfl ?_
      refine ry (y_mov rfl rfl) rfl rfl ?_
      refine ry (y_add rfl rfl rfl (wi (by omega))) rfl rfl ?_
      refine ry (y_asg rfl rfl) rfl rfl ?_
      refine reg_nil ?_
      refine fn_block ?_
      rw [hst] at H39
      refine fn_roundJ ⟨i + k, _, rfl, (H39.pickT (p := [_, _, _]) (m := [_, _]) [0, 1] rfl (by decide)), by omega, rfl⟩ ⟨rfl, trivial⟩ (by omega) (by repeat (first | exact kp_refl | refine kp_app rfl rfl ?_ | refine kp_cons rfl ?_)) rfl
  · skip
    obtain rfl : i = n := by omega
    refine cw_exit ?_
    refine fn_then_exit (fn_then_exit (fn_block_exit ?_))
    refine fn_normal ?_
    refine fn_retn (vs := []) rfl trivial rfl ?_
    rw [layV_nat, hl]
    exact ⟨_, rfl, (H5.pickT (p := [_, _]) (m := [_]) [0] rfl (by decide))⟩

set_option maxRecDepth 100000 in
theorem gPaste_w (w0 : World) (l : List Ob) (g a h : Nat) (V : List Int) (bl : Nat → Prop) (x0 y0 x1 y1 : Int) (L : List Int) (A : Option Addr) (n cap : Nat) (w : World) (hw : ¬ withinC x0 y0 x1 y1 a h = 0) (hr : ∀ X, HS w0 X l → Rd X A (vi .i64 L)) (hl : L.length = n) (hn : n ≤ 16777216) (H0 : HS w0 w (gOb g a h V bl :: l)) :
    Ret Tryz.prog 23 [.pointer (some ⟨g, 0, none⟩), .agg #[.int .i64 x0, .int .i64 y0, .int .i64 x1, .int .i64 y1], .slice A n cap] w (fun z w' => ∃ bl', z = .int .i64 (pasteC a h x0 y0 x1 y1 L) ∧ HS w0 w' (gOb g a h (pasteV V a h x0 y0 x1 y1 L) bl' :: l)) := by
  refine ret_enter Tryz.func23 rfl rfl rfl ?_
  refine cw_seq ?_
  refine cw_reg ?_
  refine reg_op (op_box (cs := [.int _ _, .int _ _, .int _ _, .int _ _]) H0 rfl rfl rfl) rfl rfl ?_
  rintro _ w2 ⟨b1, rfl, H3⟩
  refine ry (y_asg rfl rfl) rfl rfl ?_
  refine reg_nil ?_
  refine fn_next ?_
  refine cw_seq ?_
  refine cw_seq ?_
  refine cw_reg ?_
  refine ry (y_mov rfl rfl) rfl rfl ?_
  refine ry (y_ldb (i := 0) (cs := [_, _, _, _]) H3 rfl rfl kfpaint1_6 rfl rfl) rfl rfl ?_
  refine reg_op (op_call (gValues g a h (V) x0 y0 x1 y1 _ (H3.rdg (i := 1) rfl)) rfl kfpaint1_15 ⟨rfl, rfl, trivial⟩) rfl rfl ?_
  rintro _ w5 ⟨A7, c8, rfl, k4⟩
  have H6 := H3.call k4
  refine ry (y_mov rfl rfl) rfl rfl ?_
  refine ry (y_ext rfl rfl rfl) rfl rfl ?_
  refine ry (y_ext rfl rfl rfl) rfl rfl ?_
  refine ry (y_asg rfl rfl) rfl rfl ?_
  refine ry (y_asg rfl rfl) rfl rfl ?_
  refine reg_nil ?_
  refine fn_next ?_
  refine cw_seq ?_
  refine cw_reg ?_
  refine ry (y_mov rfl rfl) rfl rfl ?_
  refine ry (y_neq rfl rfl rfl) rfl rfl ?_
  refine reg_nil ?_
  refine fn_next ?_
  refine cw_condd rfl (fun h9 => ?_) (fun h9 => ?_)
  · skip
    refine cw_seq ?_
    refine cw_reg ?_
    refine ry (y_mov rfl rfl) rfl rfl ?_
    refine ry (y_asg rfl rfl) rfl rfl ?_
    refine reg_nil ?_
    refine fn_next ?_
    refine cw_ret ?_
    refine fn_then_ret ?_
    refine fn_ret1 rfl rfl ?_
    rw [pasteC_w hw, pasteV_no (by rw [pasteC_w hw]; exact hw)]
    exact ⟨_, rfl, (H6.pickT (p := [_, _, _]) (m := [_]) [2] rfl (by decide))⟩
  · exact absurd (Classical.not_not.1 h9) hw

set_option maxRecDepth 100000 in
theorem gPaste_n (w0 : World) (l : List Ob) (g a h : Nat) (V : List Int) (bl : Nat → Prop) (x0 y0 x1 y1 : Int) (L : List Int) (A : Option Addr) (n cap : Nat) (w : World) (hw : withinC x0 y0 x1 y1 a h = 0) (hc : ¬ (L.length : Int) = areaI x0 y0 x1 y1) (hr : ∀ X, HS w0 X l → Rd X A (vi .i64 L)) (hl : L.length = n) (hn : n ≤ 16777216) (H0 : HS w0 w (gOb g a h V bl :: l)) :
    Ret Tryz.prog 23 [.pointer (some ⟨g, 0, none⟩), .agg #[.int .i64 x0, .int .i64 y0, .int .i64 x1, .int .i64 y1], .slice A n cap] w (fun z w' => ∃ bl', z = .int .i64 (pasteC a h x0 y0 x1 y1 L) ∧ HS w0 w' (gOb g a h (pasteV V a h x0 y0 x1 y1 L) bl' :: l)) := by
  refine ret_enter Tryz.func23 rfl rfl rfl ?_
  refine cw_seq ?_
  refine cw_reg ?_
  refine reg_op (op_box (cs := [.int _ _, .int _ _, .int _ _, .int _ _]) H0 rfl rfl rfl) rfl rfl ?_
  rintro _ w2 ⟨b1, rfl, H3⟩
  refine ry (y_asg rfl rfl) rfl rfl ?_
  refine reg_nil ?_
  refine fn_next ?_
  refine cw_seq ?_
  refine cw_seq ?_
  refine cw_reg ?_
  refine ry (y_mov rfl rfl) rfl rfl ?_
  refine ry (y_ldb (i := 0) (cs := [_, _, _, _]) H3 rfl rfl kfpaint1_6 rfl rfl) rfl rfl ?_
  refine reg_op (op_call (gValues g a h (V) x0 y0 x1 y1 _ (H3.rdg (i := 1) rfl)) rfl kfpaint1_15 ⟨rfl, rfl, trivial⟩) rfl rfl ?_
  rintro _ w5 ⟨A7, c8, rfl, k4⟩
  have H6 := H3.call k4
  refine ry (y_mov rfl rfl) rfl rfl ?_
  refine ry (y_ext rfl rfl rfl) rfl rfl ?_
  refine ry (y_ext rfl rfl rfl) rfl rfl ?_
  refine ry (y_asg rfl rfl) rfl rfl ?_
  refine ry (y_asg rfl rfl) rfl rfl ?_
  refine reg_nil ?_
  refine fn_next ?_
  refine cw_seq ?_
  refine cw_reg ?_
  refine ry (y_mov rfl rfl) rfl rfl ?_
  refine ry (y_neq rfl rfl rfl) rfl rfl ?_
  refine reg_nil ?_
  refine fn_next ?_
  refine cw_condd rfl (fun h9 => ?_) (fun h9 => ?_)
  · exact absurd hw h9
  · skip
    refine cw_skip ?_
    refine fn_next ?_
    refine cw_seq ?_
    refine cw_block ?_
    refine cw_seq ?_
    refine cw_reg ?_
    refine ry (y_mov rfl rfl) rfl rfl ?_
    refine ry (y_len rfl Tryz.underlying24 rfl) rfl rfl ?_
    refine ry (y_ldb (i := 1) (cs := [_, _, _, _]) H6 rfl rfl kfpaint1_6 rfl rfl) rfl rfl ?_
    refine reg_op (op_call (ret_elder (area_any x0 y0 x1 y1 _)) rfl kfpaint1_16 ⟨rfl, trivial⟩) rfl rfl ?_
    rintro _ w11 ⟨rfl, e10⟩
    have H12 := H6.ext e10
    refine ry (y_neq rfl rfl rfl) rfl rfl ?_
    refine ry (y_asg rfl rfl) rfl rfl ?_
    refine reg_nil ?_
    refine fn_next ?_
    refine cw_condd rfl (fun h13 => ?_) (fun h13 => ?_)
    · skip
      refine cw_seq ?_
      refine cw_reg ?_
      refine ry (y_asg rfl rfl) rfl rfl ?_
      refine reg_nil ?_
      refine fn_next ?_
      refine cw_ret ?_
      refine fn_block_ret (fn_then_ret ?_)
      refine fn_ret1 rfl rfl ?_
      rw [pasteC_n hw hc, pasteV_no (by rw [pasteC_n hw hc]; decide)]
      exact ⟨_, rfl, (H12.pickT (p := [_, _, _]) (m := [_]) [2] rfl (by decide))⟩
    · exact absurd (by rw [hl]; exact Classical.not_not.1 h13) hc

set_option maxRecDepth 100000 in
theorem gPaste_v (w0 : World) (l : List Ob) (g a h : Nat) (V : List Int) (bl : Nat → Prop) (x0 y0 x1 y1 : Int) (L : List Int) (A : Option Addr) (n cap : Nat) (w : World) (hw : withinC x0 y0 x1 y1 a h = 0) (hc : (L.length : Int) = areaI x0 y0 x1 y1) (hv : ¬ AllB L) (hr : ∀ X, HS w0 X l → Rd X A (vi .i64 L)) (hl : L.length = n) (hn : n ≤ 16777216) (H0 : HS w0 w (gOb g a h V bl :: l)) :
    Ret Tryz.prog 23 [.pointer (some ⟨g, 0, none⟩), .agg #[.int .i64 x0, .int .i64 y0, .int .i64 x1, .int .i64 y1], .slice A n cap] w (fun z w' => ∃ bl', z = .int .i64 (pasteC a h x0 y0 x1 y1 L) ∧ HS w0 w' (gOb g a h (pasteV V a h x0 y0 x1 y1 L) bl' :: l)) := by
  refine ret_enter Tryz.func23 rfl rfl rfl ?_
  refine cw_seq ?_
  refine cw_reg ?_
  refine reg_op (op_box (cs := [.int _ _, .int _ _, .int _ _, .int _ _]) H0 rfl rfl rfl) rfl rfl ?_
  rintro _ w2 ⟨b1, rfl, H3⟩
  refine ry (y_asg rfl rfl) rfl rfl ?_
  refine reg_nil ?_
  refine fn_next ?_
  refine cw_seq ?_
  refine cw_seq ?_
  refine cw_reg ?_
  refine ry (y_mov rfl rfl) rfl rfl ?_
  refine ry (y_ldb (i := 0) (cs := [_, _, _, _]) H3 rfl rfl kfpaint1_6 rfl rfl) rfl rfl ?_
  refine reg_op (op_call (gValues g a h (V) x0 y0 x1 y1 _ (H3.rdg (i := 1) rfl)) rfl kfpaint1_15 ⟨rfl, rfl, trivial⟩) rfl rfl ?_
  rintro _ w5 ⟨A7, c8, rfl, k4⟩
  have H6 := H3.call k4
  refine ry (y_mov rfl rfl) rfl rfl ?_
  refine ry (y_ext rfl rfl rfl) rfl rfl ?_
  refine ry (y_ext rfl rfl rfl) rfl rfl ?_
  refine ry (y_asg rfl rfl) rfl rfl ?_
  refine ry (y_asg rfl rfl) rfl rfl ?_
  refine reg_nil ?_
  refine fn_next ?_
  refine cw_seq ?_
  refine cw_reg ?_
  refine ry (y_mov rfl rfl) rfl rfl ?_
  refine ry (y_neq rfl rfl rfl) rfl rfl ?_
  refine reg_nil ?_
  refine fn_next ?_
  refine cw_condd rfl (fun h9 => ?_) (fun h9 => ?_)
  · exact absurd hw h9
  · skip
    refine cw_skip ?_
    refine fn_next ?_
    refine cw_seq ?_
    refine cw_block ?_
    refine cw_seq ?_
    refine cw_reg ?_
    refine ry (y_mov rfl rfl) rfl rfl ?_
    refine ry (y_len rfl Tryz.underlying24 rfl) rfl rfl ?_
    refine ry (y_ldb (i := 1) (cs := [_, _, _, _]) H6 rfl rfl kfpaint1_6 rfl rfl) rfl rfl ?_
    refine reg_op (op_call (ret_elder (area_any x0 y0 x1 y1 _)) rfl kfpaint1_16 ⟨rfl, trivial⟩) rfl rfl ?_
    rintro _ w11 ⟨rfl, e10⟩
    have H12 := H6.ext e10
    refine ry (y_neq rfl rfl rfl) rfl rfl ?_
    refine ry (y_asg rfl rfl) rfl rfl ?_
    refine reg_nil ?_
    refine fn_next ?_
    refine cw_condd rfl (fun h13 => ?_) (fun h13 => ?_)
    · exact absurd (by rw [← hl]; exact hc) h13
    · skip
      refine cw_seq ?_
      refine cw_reg ?_
      refine ry (y_mov rfl rfl) rfl rfl ?_
      refine reg_op (op_call (pasteHas A n cap L _ (hr _ (H12.tail.tail.tail)) hl hn) rfl kfpaint1_17 ⟨rfl, rfl, trivial⟩) rfl rfl ?_
      rintro _ w15 ⟨rfl, e14⟩
      have H16 := H12.ext e14
      refine ry (y_asg rfl rfl) rfl rfl ?_
      refine reg_nil ?_
      refine fn_next ?_
      refine cw_condd rfl (fun h17 => ?_) (fun h17 => ?_)
      · skip
        refine cw_seq ?_
        refine cw_reg ?_
        refine ry (y_asg rfl rfl) rfl rfl ?_
        refine reg_nil ?_
        refine fn_next ?_
        refine cw_ret ?_
        refine fn_block_ret (fn_then_ret ?_)
        refine fn_ret1 rfl rfl ?_
        rw [pasteC_v hw hc hv, pasteV_no (by rw [pasteC_v hw hc hv]; decide)]
        exact ⟨_, rfl, (H16.pickT (p := [_, _, _]) (m := [_]) [2] rfl (by decide))⟩
      · exact absurd (Classical.not_not.1 h17) hv

set_option maxRecDepth 100000 in
theorem gPaste_ok (w0 : World) (l : List Ob) (g a h : Nat) (V : List Int) (bl : Nat → Prop) (p0 q0 p1 q1 : Nat) (L : List Int) (A : Option Addr) (n cap : Nat) (w : World) (h1 : p0 ≤ p1) (h2 : p1 < a) (h3 : q0 ≤ q1) (h4 : q1 < h) (hw : withinC p0 q0 p1 q1 a h = 0) (hc : (L.length : Int) = areaI p0 q0 p1 q1) (hv : AllB L) (hr : ∀ X, HS w0 X l → Rd X A (vi .i64 L)) (hl : L.length = n) (hn : n ≤ 16777216) (H0 : HS w0 w (gOb g a h V bl :: l)) :
    Ret Tryz.prog 23 [.pointer (some ⟨g, 0, none⟩), .agg #[.int .i64 (p0 : Int), .int .i64 (q0 : Int), .int .i64 (p1 : Int), .int .i64 (q1 : Int)], .slice A n cap] w (fun z w' => ∃ bl', z = .int .i64 (pasteC a h p0 q0 p1 q1 L) ∧ HS w0 w' (gOb g a h (pasteV V a h p0 q0 p1 q1 L) bl' :: l)) := by
  have hgv := (H0.rdg (i := 0) rfl).gv
  have ha2 := hgv.a2
  have hh2 := hgv.h2
  have hnn : n = (q1 + 1 - q0) * (p1 + 1 - p0) := by have := areaI_nat (p0 := p0) (q0 := q0) (p1 := p1) (q1 := q1) h1 (by omega) h3 (by omega); rw [this] at hc; omega
  refine ret_enter Tryz.func23 rfl rfl rfl ?_
  refine cw_seq ?_
  refine cw_reg ?_
  refine reg_op (op_box (cs := [.int _ _, .int _ _, .int _ _, .int _ _]) H0 rfl rfl rfl) rfl rfl ?_
  rintro _ w2 ⟨b1, rfl, H3⟩
  refine ry (y_asg rfl rfl) rfl rfl ?_
  refine reg_nil ?_
  refine fn_next ?_
  refine cw_seq ?_
  refine cw_seq ?_
  refine cw_reg ?_
  refine ry (y_mov rfl rfl) rfl rfl ?_
  refine ry (y_ldb (i := 0) (cs := [_, _, _, _]) H3 rfl rfl kfpaint1_6 rfl rfl) rfl rfl ?_
  refine reg_op (op_call (gValues g a h (V) p0 q0 p1 q1 _ (H3.rdg (i := 1) rfl)) rfl kfpaint1_15 ⟨rfl, rfl, trivial⟩) rfl rfl ?_
  rintro _ w5 ⟨A7, c8, rfl, k4⟩
  have H6 := H3.call k4
  refine ry (y_mov rfl rfl) rfl rfl ?_
  refine ry (y_ext rfl rfl rfl) rfl rfl ?_
  refine ry (y_ext rfl rfl rfl) rfl rfl ?_
  refine ry (y_asg rfl rfl) rfl rfl ?_
  refine ry (y_asg rfl rfl) rfl rfl ?_
  refine reg_nil ?_
  refine fn_next ?_
  refine cw_seq ?_
  refine cw_reg ?_
  refine ry (y_mov rfl rfl) rfl rfl ?_
  refine ry (y_neq rfl rfl rfl) rfl rfl ?_
  refine reg_nil ?_
  refine fn_next ?_
  refine cw_condd rfl (fun h9 => ?_) (fun h9 => ?_)
  · exact absurd hw h9
  · skip
    refine cw_skip ?_
    refine fn_next ?_
    refine cw_seq ?_
    refine cw_block ?_
    refine cw_seq ?_
    refine cw_reg ?_
    refine ry (y_mov rfl rfl) rfl rfl ?_
    refine ry (y_len rfl Tryz.underlying24 rfl) rfl rfl ?_
    refine ry (y_ldb (i := 1) (cs := [_, _, _, _]) H6 rfl rfl kfpaint1_6 rfl rfl) rfl rfl ?_
    refine reg_op (op_call (ret_elder (area_any p0 q0 p1 q1 _)) rfl kfpaint1_16 ⟨rfl, trivial⟩) rfl rfl ?_
    rintro _ w11 ⟨rfl, e10⟩
    have H12 := H6.ext e10
    refine ry (y_neq rfl rfl rfl) rfl rfl ?_
    refine ry (y_asg rfl rfl) rfl rfl ?_
    refine reg_nil ?_
    refine fn_next ?_
    refine cw_condd rfl (fun h13 => ?_) (fun h13 => ?_)
    · exact absurd (by rw [← hl]; exact hc) h13
    · skip
      refine cw_seq ?_
      refine cw_reg ?_
      refine ry (y_mov rfl rfl) rfl rfl ?_
      refine reg_op (op_call (pasteHas A n cap L _ (hr _ (H12.tail.tail.tail)) hl hn) rfl kfpaint1_17 ⟨rfl, rfl, trivial⟩) rfl rfl ?_
      rintro _ w15 ⟨rfl, e14⟩
      have H16 := H12.ext e14
      refine ry (y_asg rfl rfl) rfl rfl ?_
      refine reg_nil ?_
      refine fn_next ?_
      refine cw_condd rfl (fun h17 => ?_) (fun h17 => ?_)
      · exact absurd hv h17
      · skip
        refine cw_skip ?_
        refine fn_block ?_
        refine fn_next ?_
        refine cw_seq ?_
        refine cw_reg ?_
        refine ry (y_mov rfl rfl) rfl rfl ?_
        refine ry (y_ldb (i := 1) (cs := [_, _, _, _]) H16 rfl rfl kfpaint1_6 rfl rfl) rfl rfl ?_
        refine ry (y_mov rfl rfl) rfl rfl ?_
        refine reg_op (op_call (gridLay w0 _ g a h V bl p0 q0 p1 q1 L A n cap _ (hgv.sz) hgv.len h1 h2 h3 h4 hnn hv (fun Z hZ => hr _ (hZ.tail.tail)) hl hn (H16.pickT (p := [_, _, _]) (m := [_, _, _]) [2, 0, 1] rfl (by decide))) rfl kfpaint1_18 ⟨rfl, rfl, rfl, trivial⟩) rfl rfl ?_
        rintro _ w19 ⟨bl20, rfl, H18⟩
        refine reg_nil ?_
        refine fn_next ?_
        refine cw_seq ?_
        refine cw_reg ?_
        refine ry (y_asg rfl rfl) rfl rfl ?_
        refine reg_nil ?_
        refine fn_next ?_
        refine cw_ret ?_
        refine fn_ret1 rfl rfl ?_
        rw [pasteC_ok hw hc hv, pasteV_ok (pasteC_ok hw hc hv)]
        exact ⟨_, rfl, (H18.pickT (p := [_, _, _]) (m := [_]) [0] rfl (by decide))⟩

theorem gPaste (w0 : World) (l : List Ob) (g a h : Nat) (V : List Int) (bl : Nat → Prop) (x0 y0 x1 y1 : Int) (L : List Int) (A : Option Addr) (n cap : Nat) (w : World) (hr : ∀ X, HS w0 X l → Rd X A (vi .i64 L)) (hl : L.length = n) (hn : n ≤ 16777216) (H0 : HS w0 w (gOb g a h V bl :: l)) : Ret Tryz.prog 23 [.pointer (some ⟨g, 0, none⟩), .agg #[.int .i64 x0, .int .i64 y0, .int .i64 x1, .int .i64 y1], .slice A n cap] w (fun z w' => ∃ bl', z = .int .i64 (pasteC a h x0 y0 x1 y1 L) ∧ HS w0 w' (gOb g a h (pasteV V a h x0 y0 x1 y1 L) bl' :: l)) := by
  by_cases hw : withinC x0 y0 x1 y1 a h = 0
  · by_cases hc : (L.length : Int) = areaI x0 y0 x1 y1
    · by_cases hv : AllB L
      · obtain ⟨p0, q0, p1, q1, rfl, rfl, rfl, rfl, h1, h2, h3, h4⟩ := within_natG (H0.rdg (i := 0) rfl).gv.sz hw
        exact gPaste_ok w0 l g a h V bl p0 q0 p1 q1 L A n cap w h1 h2 h3 h4 hw hc hv hr hl hn H0
      · exact gPaste_v w0 l g a h V bl x0 y0 x1 y1 L A n cap w hw hc hv hr hl hn H0
    · exact gPaste_n w0 l g a h V bl x0 y0 x1 y1 L A n cap w hw hc hr hl hn H0
  · exact gPaste_w w0 l g a h V bl x0 y0 x1 y1 L A n cap w hw hr hl hn H0

end Go.Proofs.YtbnjbgcadkdljaaGreatDoor
