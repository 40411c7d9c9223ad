/- Files, without the program: what bytes load as. -/
import Derived.Test.YtbnjbgcadkdljaaGreatDoorPlain14b
import Derived.Test.YtbnjbgcadkdljaaGreatDoorPlain6
import Derived.Test.YtbnjbgcadkdljaaGreatDoorLaw13a
set_option linter.unusedVariables false
set_option linter.unusedSimpArgs false
namespace Go.Proofs.YtbnjbgcadkdljaaGreatDoor
open Go Go.RowKit
theorem tgF_facts {bs zs : List Int} {w h k : Int} (hB : okB bs) (g : tgF bs w h = (zs, k, 0)) : tR w h ∧ kOk k ∧ (zs.length : Int) = w * h ∧ mayAll zs = true ∧ tpF k zs w h = (bs, 0) := by
  have h1 := tile_again hB g
  have h2 := h1
  unfold tpF at h1
  by_cases a : tR w h
  · rw [if_neg (fun q => q a)] at h1
    by_cases b : kOk k
    · rw [if_neg (fun q => q b)] at h1
      by_cases c : ckF zs w h = 0
      · refine ⟨a, b, ?_, ?_, h2⟩
        · unfold ckF at c
          by_cases e : (zs.length : Int) = w * h
          · exact e
          · rw [if_pos e] at c; cases c
        · unfold ckF at c
          by_cases e : (zs.length : Int) = w * h
          · rw [if_neg (fun q => q e)] at c
            by_cases f : mayAll zs = true
            · exact f
            · rw [if_neg f] at c; cases c
          · rw [if_pos e] at c; cases c
      · rw [if_pos c] at h1
        have := congrArg Prod.snd h1
        exact absurd this c
    · rw [if_pos b] at h1; cases h1
  · rw [if_pos a] at h1; cases h1
def lensZ (Z : List Int) : List Int := lensOf Z (nOf Z)
def offZ (Z : List Int) (i : Nat) : Nat := (baseOf Z + sumL ((lensZ Z).take i)).toNat
def lenZ (Z : List Int) (i : Nat) : Nat := (nth (lensZ Z) i).toNat
/-- a tile's bytes -/
def tbZ (Z : List Int) (i : Nat) : List Int := (Z.drop (offZ Z i)).take (lenZ Z i)
def tilesZ (Z : List Int) : List Rt := piecesL ⟨0, 0, wOf Z - 1, hOf Z - 1⟩
def tileZ (Z : List Int) (i : Nat) : Rt := (tilesZ Z).getD i ⟨0, 0, 0, 0⟩
def tgZ (Z : List Int) (i : Nat) : List Int × Int × Int := tgF (tbZ Z i) ((tileZ Z i).x1 - (tileZ Z i).x0 + 1) ((tileZ Z i).y1 - (tileZ Z i).y0 + 1)
def tpZ (Z : List Int) (i : Nat) : Tp := ⟨(tileZ Z i).x0.toNat, (tileZ Z i).y0.toNat, (tileZ Z i).x1.toNat, (tileZ Z i).y1.toNat, (tgZ Z i).1⟩
def tpsZ (Z : List Int) (k : Nat) : List Tp := (List.range k).map (tpZ Z)
def vZ (Z : List Int) (k : Nat) : List Int := layAll (wOf Z).toNat (List.replicate ((wOf Z).toNat * (hOf Z).toNat) 0) (tpsZ Z k)
def kZ (Z : List Int) (k : Nat) : List Int := (List.range k).map fun i => (tgZ Z i).2.1
/-- is it a file's body? -/
def fileP (Z : List Int) : Prop := (dgS Z).2.2.2 = 0 ∧ baseOf Z + sumL (lensZ Z) = Z.length ∧ ∀ i, i < nOf Z → (tgZ Z i).2.2 = 0
theorem vZ_succ {Z : List Int} {k : Nat} : vZ Z (k + 1) = layT (vZ Z k) (wOf Z).toNat (tpZ Z k).p0 (tpZ Z k).q0 (tpZ Z k).p1 (tpZ Z k).q1 (tpZ Z k).L (tpZ Z k).L.length := by
  unfold vZ tpsZ
  rw [List.range_succ, List.map_append, layAll_app]; rfl
theorem kZ_succ {Z : List Int} {k : Nat} : kZ Z (k + 1) = kZ Z k ++ [(tgZ Z k).2.1] := by unfold kZ; rw [List.range_succ, List.map_append]; rfl
structure DirOk (Z : List Int) (a h N : Nat) : Prop where
  w : wOf Z = a
  hh : hOf Z = h
  n : nOf Z = N
  sz : SzG a h
  dg : dgS Z = ((a : Int), (h : Int), lensZ Z, 0)
  len : (lensZ Z).length = N
  okl : okL (lensZ Z)
  base : baseOf Z = ((13 + 8 * N : Nat) : Int)
  tiles : (tilesZ Z).length = N
  bd : N ≤ 4096
theorem dirOk_of {Z : List Int} (hc : (dgS Z).2.2.2 = 0) : ∃ a h N, DirOk Z a h N := by
  obtain ⟨h1, h2, h3, h4, h5, h6, h7⟩ := dgS_zero hc
  have htb := tilN_bd h3
  have hb' := h3
  unfold badS at hb'
  have hn : ((nOf Z : Nat) : Int) = tilN (wOf Z) (hOf Z) := by unfold nOf; omega
  have hbase : baseOf Z = 13 + 8 * tilN (wOf Z) (hOf Z) := rfl
  have hL : okL (lensOf Z (nOf Z)) := by
    have := upto_bd (Nat.le_refl _) h6
    rwa [List.take_of_length_le (by rw [lensOf_len]; omega)] at this
  have hp := pieces_cnt h3
  have ea : wOf Z = ((wOf Z).toNat : Int) := by omega
  have eh : hOf Z = ((hOf Z).toNat : Int) := by omega
  have ht : (tilesZ Z).length = nOf Z := by
    have : ((tilesZ Z).length : Int) = ((nOf Z : Nat) : Int) := by rw [hn]; exact hp
    omega
  refine ⟨(wOf Z).toNat, (hOf Z).toNat, nOf Z, ⟨ea, eh, rfl, ⟨by omega, by omega, by omega, by omega⟩, ?_, lensOf_len _ _, hL, by omega, ht, ?_⟩⟩
  · rw [h7, ← ea, ← eh]; rfl
  · rw [← ht]; exact pieces_len _
structure TileOk (a h : Nat) (t : Rt) : Prop where
  x0 : 0 ≤ t.x0
  x : t.x0 ≤ t.x1
  x1 : t.x1 < a
  y0 : 0 ≤ t.y0
  y : t.y0 ≤ t.y1
  y1 : t.y1 < h
  wx : t.x1 - t.x0 ≤ 15
  wy : t.y1 - t.y0 ≤ 15
theorem tile_ok {Z : List Int} {a h N : Nat} (D : DirOk Z a h N) {i : Nat} (hi : i < N) : TileOk a h (tileZ Z i) ∧ tileZ Z i ∈ tilesZ Z := by
  have hm : tileZ Z i ∈ tilesZ Z := by
    have : i < (tilesZ Z).length := by rw [D.tiles]; exact hi
    unfold tileZ; simp [List.getD, this]
  obtain ⟨s1, s2, s3, s4⟩ := D.sz
  obtain ⟨hr, hx, hy⟩ := pieces_ok _ _ hm
  unfold Rt.right RightP at hr
  have hge := sum_ge (c := (tileZ Z i).x1) (d := (tileZ Z i).y1) hm
  have h1 : inS (tileZ Z i).x1 (tileZ Z i).y1 (tileZ Z i) = 1 := by unfold inS; rw [if_pos (by omega)]
  have hin : inS (tileZ Z i).x1 (tileZ Z i).y1 ⟨0, 0, (a : Int) - 1, (h : Int) - 1⟩ = 1 := by
    have hg := grid_sum D.sz (tileZ Z i).x1 (tileZ Z i).y1
    have e : tilesZ Z = piecesL ⟨0, 0, (a : Int) - 1, (h : Int) - 1⟩ := by unfold tilesZ; rw [D.w, D.hh]
    rw [e, h1] at hge
    have hrr : Rt.right ⟨0, 0, (a : Int) - 1, (h : Int) - 1⟩ := by unfold Rt.right RightP; simp only; omega
    unfold piecesL at hge
    rw [if_pos hrr, pieces_has (r := ⟨0, 0, (a : Int) - 1, (h : Int) - 1⟩) (Int.le_refl _) (by show (0 : Int) ≤ (a : Int) - 1; omega) (Int.le_refl _) (by show (0 : Int) ≤ (h : Int) - 1; omega)] at hge
    unfold inS at hge ⊢
    split at hge
    · rename_i q; rw [if_pos q]
    · omega
  unfold inS at hin
  split at hin
  · rename_i q
    simp only at q
    exact ⟨⟨by omega, by omega, by omega, by omega, by omega, by omega, by omega, by omega⟩, hm⟩
  · cases hin
section
variable {Z : List Int} {a h N : Nat}
theorem len_int (D : DirOk Z a h N) {i : Nat} (hi : i < N) : nth (lensZ Z) i = (lenZ Z i : Int) ∧ 1 ≤ lenZ Z i ∧ lenZ Z i ≤ 1048576 := by
  have := okL_at D.okl (i := i) (by rw [D.len]; exact hi)
  unfold lenZ; omega
theorem off_int (D : DirOk Z a h N) (i : Nat) : baseOf Z + sumL ((lensZ Z).take i) = (offZ Z i : Int) := by
  have h1 := (sumL_bd (okL_take D.okl i)).1
  have h2 := D.base
  unfold offZ; omega
theorem off_zero (D : DirOk Z a h N) : offZ Z 0 = 13 + 8 * N := by
  have := off_int D 0
  rw [List.take_zero, D.base] at this
  simp only [sumL] at this
  omega
theorem off_succ (D : DirOk Z a h N) {i : Nat} (hi : i < N) : offZ Z (i + 1) = offZ Z i + lenZ Z i := by
  have h1 := off_int D (i + 1)
  have h2 := off_int D i
  have h3 := (len_int D hi).1
  rw [List.take_succ_eq_append_getElem (by rw [D.len]; exact hi), sumL_snoc, ← nth_lt (by rw [D.len]; exact hi), h3] at h1
  omega
theorem off_mono (D : DirOk Z a h N) {i : Nat} : ∀ j, i ≤ j → j ≤ N → offZ Z i ≤ offZ Z j
  | 0, h1, _ => by obtain rfl : i = 0 := by omega
                   exact Nat.le_refl _
  | j + 1, h1, h2 => by
    rcases Nat.lt_or_eq_of_le h1 with q | rfl
    · have := off_mono D (i := i) j (by omega) (by omega)
      rw [off_succ D (by omega)]; omega
    · exact Nat.le_refl _
theorem off_end (D : DirOk Z a h N) : baseOf Z + sumL (lensZ Z) = (offZ Z N : Int) := by
  have := off_int D N
  rwa [List.take_of_length_le (by rw [D.len]; exact Nat.le_refl _)] at this
theorem ent_at (D : DirOk Z a h N) {i : Nat} (hi : i < N) : (vi .i64 (entF (baseOf Z) (lensZ Z)))[i * 2]? = some (.int .i64 (offZ Z i : Int)) ∧ (vi .i64 (entF (baseOf Z) (lensZ Z)))[i * 2 + 1]? = some (.int .i64 (lenZ Z i : Int)) := by
  obtain ⟨e1, e2⟩ := entF_at (l := lensZ Z) (i := i) (by rw [D.len]; exact hi) (baseOf Z)
  have hl := entF_len (lensZ Z) (baseOf Z)
  rw [D.len] at hl
  have g1 := vi_get (k := .i64) (zs := entF (baseOf Z) (lensZ Z)) (i := i * 2) (by omega)
  have g2 := vi_get (k := .i64) (zs := entF (baseOf Z) (lensZ Z)) (i := i * 2 + 1) (by omega)
  rw [e1, off_int D i] at g1
  rw [e2, (len_int D hi).1] at g2
  exact ⟨g1, g2⟩
theorem tb_join (D : DirOk Z a h N) : ∀ k, k ≤ N → Z.take (offZ Z 0) ++ (List.range k).flatMap (tbZ Z) = Z.take (offZ Z k)
  | 0, _ => by simp
  | k + 1, hk => by
    rw [List.range_succ, List.flatMap_append, ← List.append_assoc, tb_join D k (by omega), off_succ D (by omega), List.take_add]
    simp [tbZ]
end
theorem within_ok14 {a h p0 q0 p1 q1 : Nat} (s : SzG a h) (h1 : p0 ≤ p1) (h2 : p1 < a) (h3 : q0 ≤ q1) (h4 : q1 < h) : withinC p0 q0 p1 q1 a h = 0 := by
  obtain ⟨s1, s2, s3, s4⟩ := s
  unfold withinC; simp only [insideB_not]
  rw [if_neg (by unfold wrap64; omega), if_neg (by omega), if_neg (by omega)]
theorem may_AllB {zs : List Int} (h : mayAll zs = true) : AllB zs := fun v hv => by
  unfold mayAll at h
  have := List.all_eq_true.1 h v hv
  unfold mayB at this
  unfold B32
  simpa using this
section
variable {Z : List Int} {a h N i : Nat}
structure TgOk (Z : List Int) (a h i : Nat) : Prop where
  t : TileOk a h (tileZ Z i)
  ok : (tpZ Z i).ok a h
  len : ((tgZ Z i).1.length : Int) = areaI (tileZ Z i).x0 (tileZ Z i).y0 (tileZ Z i).x1 (tileZ Z i).y1
  bd : AllB (tgZ Z i).1
  k : kOk (tgZ Z i).2.1
  put : tpF (tgZ Z i).2.1 (tgZ Z i).1 ((tileZ Z i).x1 - (tileZ Z i).x0 + 1) ((tileZ Z i).y1 - (tileZ Z i).y0 + 1) = (tbZ Z i, 0)
  wi : withinC (tileZ Z i).x0 (tileZ Z i).y0 (tileZ Z i).x1 (tileZ Z i).y1 a h = 0
theorem tg_ok (D : DirOk Z a h N) (hB : okB Z) (hi : i < N) (hc : (tgZ Z i).2.2 = 0) : TgOk Z a h i := by
  obtain ⟨T, hm⟩ := tile_ok D hi
  have hb : okB (tbZ Z i) := fun z hz => hB z (List.mem_of_mem_drop (List.mem_of_mem_take hz))
  obtain ⟨f1, f2, f3, f4, f5⟩ := tgF_facts (bs := tbZ Z i) (zs := (tgZ Z i).1) (k := (tgZ Z i).2.1) hb (show tgF _ _ _ = _ from by
    show tgZ Z i = _
    rw [← hc])
  have S := D.sz
  obtain ⟨s1, s2, s3, s4⟩ := id S
  have t1 := T.x0; have t2 := T.x; have t3 := T.x1; have t4 := T.y0; have t5 := T.y; have t6 := T.y1
  have hw : withinC (tileZ Z i).x0 (tileZ Z i).y0 (tileZ Z i).x1 (tileZ Z i).y1 a h = 0 := by
    have e := within_ok14 (p0 := (tileZ Z i).x0.toNat) (q0 := (tileZ Z i).y0.toNat) (p1 := (tileZ Z i).x1.toNat) (q1 := (tileZ Z i).y1.toNat) S (by omega) (by omega) (by omega) (by omega)
    rwa [show (((tileZ Z i).x0.toNat : Nat) : Int) = (tileZ Z i).x0 by omega, show (((tileZ Z i).y0.toNat : Nat) : Int) = (tileZ Z i).y0 by omega, show (((tileZ Z i).x1.toNat : Nat) : Int) = (tileZ Z i).x1 by omega, show (((tileZ Z i).y1.toNat : Nat) : Int) = (tileZ Z i).y1 by omega] at e
  refine ⟨T, ⟨?_, ?_, ?_, ?_, ?_⟩, ?_, may_AllB f4, f2, f5, hw⟩
  · show (tileZ Z i).x0.toNat ≤ (tileZ Z i).x1.toNat; omega
  · show (tileZ Z i).x1.toNat < a; omega
  · show (tileZ Z i).y0.toNat ≤ (tileZ Z i).y1.toNat; omega
  · show (tileZ Z i).y1.toNat < h; omega
  · show (tgZ Z i).1.length = ((tileZ Z i).y1.toNat + 1 - (tileZ Z i).y0.toNat) * ((tileZ Z i).x1.toNat + 1 - (tileZ Z i).x0.toNat)
    have e1 : (tileZ Z i).x1 - (tileZ Z i).x0 + 1 = (((tileZ Z i).x1.toNat + 1 - (tileZ Z i).x0.toNat : Nat) : Int) := by omega
    have e2 : (tileZ Z i).y1 - (tileZ Z i).y0 + 1 = (((tileZ Z i).y1.toNat + 1 - (tileZ Z i).y0.toNat : Nat) : Int) := by omega
    rw [e1, e2, ← Int.natCast_mul, Nat.mul_comm] at f3
    exact Int.ofNat.inj f3
  · unfold areaI
    rw [if_pos (by unfold RightP; omega)]
    exact f3
end
theorem split_at {α : Type} {l : List α} {i : Nat} (hi : i < l.length) : l = l.take i ++ l[i] :: l.drop (i + 1) := by
  rw [← List.drop_eq_getElem_cons hi, List.take_append_drop]
section
variable {Z : List Int} {a h N : Nat}
theorem vZ_len (D : DirOk Z a h N) (k : Nat) : (vZ Z k).length = a * h := by
  unfold vZ
  rw [layAll_len, List.length_replicate, D.w, D.hh, Int.toNat_natCast, Int.toNat_natCast]
theorem paste_step (D : DirOk Z a h N) {i : Nat} (T : TgOk Z a h i) : pasteC a h (tileZ Z i).x0 (tileZ Z i).y0 (tileZ Z i).x1 (tileZ Z i).y1 (tgZ Z i).1 = 0 ∧ pasteV (vZ Z i) a h (tileZ Z i).x0 (tileZ Z i).y0 (tileZ Z i).x1 (tileZ Z i).y1 (tgZ Z i).1 = vZ Z (i + 1) := by
  have hc : pasteC a h (tileZ Z i).x0 (tileZ Z i).y0 (tileZ Z i).x1 (tileZ Z i).y1 (tgZ Z i).1 = 0 := by
    unfold pasteC
    rw [if_pos T.wi, if_pos T.len, if_pos T.bd]
  refine ⟨hc, ?_⟩
  unfold pasteV
  rw [if_pos hc, vZ_succ, D.w, Int.toNat_natCast]
  rfl
theorem tiles_apart (D : DirOk Z a h N) {i j : Nat} (hij : i < j) (hj : j < N) {x y : Nat} (Ti : TileOk a h (tileZ Z i)) (Tj : TileOk a h (tileZ Z j)) (hi : (tpZ Z i).in_ x y) : ¬ (tpZ Z j).in_ x y := fun hq => by
  have hl := D.tiles
  have e := split_at (l := tilesZ Z) (i := i) (by omega)
  have hg := grid_sum D.sz (x : Int) (y : Int)
  have ew : piecesL ⟨0, 0, (a : Int) - 1, (h : Int) - 1⟩ = tilesZ Z := by unfold tilesZ; rw [D.w, D.hh]
  rw [ew, e] at hg
  have gi : (tilesZ Z)[i]'(by omega) = tileZ Z i := by
    have : i < (tilesZ Z).length := by omega
    unfold tileZ; simp [List.getD, this]
  have gj : tileZ Z j ∈ (tilesZ Z).drop (i + 1) := by
    have hj' : j < (tilesZ Z).length := by omega
    have : tileZ Z j = ((tilesZ Z).drop (i + 1))[j - (i + 1)]'(by rw [List.length_drop]; omega) := by
      unfold tileZ
      rw [List.getElem_drop]
      simp [List.getD, show i + 1 + (j - (i + 1)) = j by omega, hj']
    rw [this]; exact List.getElem_mem _
  have inOf : ∀ {t : Rt}, TileOk a h t → ∀ L, (Tp.mk t.x0.toNat t.y0.toNat t.x1.toNat t.y1.toNat L).in_ x y → inS (x : Int) (y : Int) t = 1 := fun {t} T L hin => by
    obtain ⟨i1, i2, i3, i4⟩ := hin
    have t1 := T.x0; have t2 := T.x; have t4 := T.y0; have t5 := T.y
    unfold inS
    simp only at i1 i2 i3 i4
    rw [if_pos (by omega)]
  have h1 := inOf Ti _ hi
  have h2 := inOf Tj _ hq
  have h0 := sum_apart hg (by rw [gi]; exact h1) gj
  omega
theorem read_back (D : DirOk Z a h N) (hT : ∀ i, i < N → TgOk Z a h i) {i : Nat} (hi : i < N) : gvalV (vZ Z N) a h (tileZ Z i).x0 (tileZ Z i).y0 (tileZ Z i).x1 (tileZ Z i).y1 = (tgZ Z i).1 := by
  have T := hT i hi
  have t1 := T.t.x0; have t2 := T.t.x; have t4 := T.t.y0; have t5 := T.t.y
  have hl : (tpsZ Z N).length = N := by simp [tpsZ]
  have e := split_at (l := tpsZ Z N) (i := i) (by omega)
  have gi : (tpsZ Z N)[i]'(by omega) = tpZ Z i := by simp [tpsZ]
  rw [gi] at e
  unfold gvalV
  rw [if_pos T.wi]
  unfold vZ
  rw [e, D.w, Int.toNat_natCast]
  have h1 := layAll_read (A := (tpsZ Z N).take i) (B := (tpsZ Z N).drop (i + 1)) (V := List.replicate (a * (hOf Z).toNat) 0) T.ok (by rw [List.length_replicate, D.hh, Int.toNat_natCast]) (fun s hs x y hin => by
    obtain ⟨k, hk, rfl⟩ := List.mem_iff_getElem.1 hs
    rw [List.length_drop] at hk
    rw [List.getElem_drop]
    have : (tpsZ Z N)[i + 1 + k]'(by omega) = tpZ Z (i + 1 + k) := by simp [tpsZ]
    rw [this]
    exact tiles_apart D (by omega) (by omega) T.t (hT (i + 1 + k) (by omega)).t hin)
  have e1 : ((tileZ Z i).x1 - (tileZ Z i).x0 + 1).toNat = (tpZ Z i).p1 + 1 - (tpZ Z i).p0 := by show _ = (tileZ Z i).x1.toNat + 1 - (tileZ Z i).x0.toNat; omega
  have e2 : ((tileZ Z i).y1 - (tileZ Z i).y0 + 1).toNat = (tpZ Z i).q1 + 1 - (tpZ Z i).q0 := by show _ = (tileZ Z i).y1.toNat + 1 - (tileZ Z i).y0.toNat; omega
  rw [e1, e2]
  exact h1
end
end Go.Proofs.YtbnjbgcadkdljaaGreatDoor
