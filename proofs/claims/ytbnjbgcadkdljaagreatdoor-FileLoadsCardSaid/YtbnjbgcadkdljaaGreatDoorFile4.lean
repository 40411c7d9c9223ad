/- Layer 14: what was loaded is saved again. -/
import Derived.Test.YtbnjbgcadkdljaaGreatDoorFile2
import Derived.Test.YtbnjbgcadkdljaaGreatDoorFileN
set_option linter.unusedVariables false
set_option linter.unusedSimpArgs false
namespace Go.Proofs.YtbnjbgcadkdljaaGreatDoor
open Go Go.RowKit
theorem kffile4_1 : callB Tryz.prog 20 = true := by kernel_rfl
theorem kffile4_2 : callB Tryz.prog 28 = true := by kernel_rfl
theorem kffile4_3 : elB Tryz.prog 47 4 = true := by kernel_rfl
theorem kffile4_4 : aggB Tryz.prog 54 4 = true := by kernel_rfl
theorem kffile4_5 : (Tryz.prog.info? 54).bind (fun i => i.zero.map Value.cells) = some (List.toArray [(.int .i64 0), (.int .i64 0), (.int .i64 0), (.int .i64 0)]) := by kernel_rfl
theorem kffile4_6 : szB Tryz.prog 54 4 = true := by kernel_rfl
theorem kffile4_7 : callB Tryz.prog 25 = true := by kernel_rfl
theorem kffile4_8 : callB Tryz.prog 21 = true := by kernel_rfl
theorem kffile4_9 : elB Tryz.prog 27 1 = true := by kernel_rfl
theorem kffile4_10 : oneB Tryz.prog 3 = true := by kernel_rfl
theorem kffile4_11 : callB Tryz.prog 31 = true := by kernel_rfl
theorem kffile4_12 : (Tryz.prog.info? 2).map (fun i => (i.size, i.zero.map Value.cells)) = some (1, some (List.toArray [(.int .i64 0)])) := by kernel_rfl
theorem kffile4_13 : (Tryz.prog.info? 2).map (fun i => (i.zero.map (·.cells.toList), i.size, i.bytes)) = some (some [(.int .i64 0)], 1, 8) := by kernel_rfl
theorem kffile4_14 : (Tryz.prog.info? 22).map (fun i => (i.size, i.zero.map Value.cells)) = some (1, some (List.toArray [(.slice none 0 0)])) := by kernel_rfl
theorem kffile4_15 : (Tryz.prog.info? 22).map (fun i => (i.zero.map (·.cells.toList), i.size, i.bytes)) = some (some [(.slice none 0 0)], 1, 24) := by kernel_rfl
theorem kffile4_16 : callB Tryz.prog 24 = true := by kernel_rfl
theorem kffile4_17 : callB Tryz.prog 32 = true := by kernel_rfl
theorem kffile4_18 : callB Tryz.prog 34 = true := by kernel_rfl
theorem kffile4_19 : callB Tryz.prog 33 = true := by kernel_rfl
section
variable {Z : List Int} {a h N i : Nat}
theorem kZ_len (k : Nat) : (kZ Z k).length = k := by unfold kZ; rw [List.length_map, List.length_range]
theorem kZ_at {k j : Nat} (hj : j < k) : nth (kZ Z k) j = (tgZ Z j).2.1 := by
  rw [nth_lt (by rw [kZ_len]; exact hj)]
  unfold kZ
  rw [List.getElem_map, List.getElem_range]
theorem tgs_ok (D : DirOk Z a h N) (hB : okB Z) (hf : fileP Z) {i : Nat} (hi : i < N) : TgOk Z a h i := tg_ok D hB hi (fileP_all D hf hi)
theorem kAll_kZ (D : DirOk Z a h N) (hB : okB Z) (hf : fileP Z) : kAll (kZ Z N) = true := kAll_yes fun j hj => by
  rw [kZ_len] at hj
  rw [kZ_at hj]
  exact (tgs_ok D hB hf hj).k
theorem lens_step (D : DirOk Z a h N) (hf : fileP Z) (hi : i < N) : (lensZ Z).take i ++ [((tbZ Z i).length : Int)] = (lensZ Z).take (i + 1) := by
  have hom := off_mono D (i := i + 1) N (by omega) (Nat.le_refl _)
  have he := fileP_end D hf
  rw [tbz_len D hi (by omega), List.take_succ_eq_append_getElem (by rw [D.len]; exact hi), ← nth_lt (by rw [D.len]; exact hi), (len_int D hi).1]
theorem flatP_of {ps : List Bp} {k : Nat} {f : Nat → List Int} (hp : ps.map (·.bs) = (List.range k).map f) : flatP ps = (List.range k).flatMap f := by
  unfold flatP
  rw [List.flatMap_def, List.flatMap_def, hp]
theorem join2 (D : DirOk Z a h N) (hf : fileP Z) {ps : List Bp} (hp : ps.map (·.bs) = (List.range N).map (tbZ Z)) (A1 A2 : Option Addr) (c1 c2 : Nat) : flatP [⟨A1, c1, Z.take (13 + 8 * N)⟩, ⟨A2, c2, flatP ps⟩] = Z := by
  have h1 := tb_join D N (Nat.le_refl _)
  rw [off_zero D, fileP_end D hf, List.take_length, ← flatP_of hp] at h1
  unfold flatP at h1 ⊢
  simpa using h1
end
theorem gValuesZ (g a h N : Nat) (Z : List Int) (D : DirOk Z a h N) (hB : okB Z) (hf : fileP Z) (i : Nat) (hi : i < N) (w : World) (R : GRd w g a h (vZ Z N)) : Ret Tryz.prog 25 [pt (some ⟨g, 0, none⟩) 0, .agg #[.int .i64 (tileZ Z i).x0, .int .i64 (tileZ Z i).y0, .int .i64 (tileZ Z i).x1, .int .i64 (tileZ Z i).y1]] w (fun z w' => ∃ A cap, z = .tuple #[.slice A (tgZ Z i).1.length cap, .int .i64 0] ∧ HS w w' [.row A (tgZ Z i).1.length cap (vi .i64 (tgZ Z i).1) 2 1]) := by
  have h1 := gValues g a h (vZ Z N) (tileZ Z i).x0 (tileZ Z i).y0 (tileZ Z i).x1 (tileZ Z i).y1 w R
  rw [read_back D (fun j hj => tgs_ok D hB hf hj) hi, (tgs_ok D hB hf hi).wi] at h1
  exact h1
theorem tilePutZ (Z : List Int) (a h i : Nat) (T : TgOk Z a h i) (p q : Int) (A : Option Addr) (c : Nat) (w : World) (hp : (tileZ Z i).x1 - (tileZ Z i).x0 + 1 = p) (hq : (tileZ Z i).y1 - (tileZ Z i).y0 + 1 = q) (hz : Rd w A (vi .i64 (tgZ Z i).1)) (hcap : (tgZ Z i).1.length ≤ c) :
    Ret Tryz.prog 31 [.int .i64 (tgZ Z i).2.1, .slice A (tgZ Z i).1.length c, .int .i64 p, .int .i64 q] w (fun v w' => ∃ A' c', v = .tuple #[.slice A' (tbZ Z i).length c', .int .i64 0] ∧ HS w w' [.row A' (tbZ Z i).length c' (vi .u8 (tbZ Z i)) 5 1]) := by
  subst hp hq
  have hl := tg_len T
  refine Calls.mono (tilePut _ _ _ (tgZ Z i).1 A _ c w hz rfl hcap (by omega)) ?_
  rintro e w' ⟨z, rfl, A', c', bs, e, rfl, hT, H⟩
  rw [T.put] at hT
  obtain ⟨rfl, rfl⟩ := Prod.mk.inj hT
  exact ⟨_, rfl, A', c', rfl, H⟩
theorem dirPutZ (Z : List Int) (a h N : Nat) (D : DirOk Z a h N) (hB : okB Z) (A : Option Addr) (c : Nat) (w : World) (hz : Rd w A (vi .i64 (lensZ Z))) :
    Ret Tryz.prog 32 [.int .i64 (a : Int), .int .i64 (h : Int), .slice A N c] w (fun v w' => ∃ A' c', v = .tuple #[.slice A' (Z.take (13 + 8 * N)).length c', .int .i64 0] ∧ HS w w' [.row A' (Z.take (13 + 8 * N)).length c' (vi .u8 (Z.take (13 + 8 * N))) 5 1]) := by
  obtain ⟨s1, s2, s3, s4⟩ := D.sz
  have hb := D.bd
  have h1 := dirPut_any (a : Int) (h : Int) A N c (lensZ Z) w hz D.len (by omega) (by omega) (by omega)
  unfold DirPutR at h1
  have h2 := (get_put (okB_byt.1 hB) (by rw [D.dg] : (dgS Z).2.2.2 = 0)).1
  rw [D.w, D.hh, D.n] at h2
  have h3 : dirS (a : Int) (h : Int) (lensZ Z) = (Z.take (13 + 8 * N), 0) := by rw [← h2]; unfold lensZ; rw [D.n]
  rw [h3] at h1
  exact h1

set_option maxRecDepth 100000 in
set_option maxHeartbeats 2000000 in
theorem fSave (g a h N : Nat) (Z : List Int) (K : Option Addr) (ck : Nat) (w : World) (hg : Rd w (some ⟨0, 0, none⟩) (vi .u32 tblI)) (D : DirOk Z a h N) (hB : okB Z) (hf : fileP Z) (hZ : Z.length ≤ 6000) (R : GRd w g a h (vZ Z N)) (hk : Rd w K (vi .i64 (kZ Z N))) :
    Ret Tryz.prog 9 [pt (some ⟨g, 0, none⟩) 0, .slice K N ck] w (fun v w' => ∃ A c, v = .tuple #[.slice A (Z ++ tailB (crcM 0#32 Z)).length c, .int .i64 0] ∧ HS w w' [.row A (Z ++ tailB (crcM 0#32 Z)).length c (vi .u8 (Z ++ tailB (crcM 0#32 Z))) 5 1]) := by
 have hbN := D.bd
 have hkl := kZ_len (Z := Z) N
 refine ret_enter Tryz.func9 rfl rfl rfl ?_
 have H0 := HS.start w
 refine cw_seq ?_
 refine cw_reg ?_
 refine ry (y_asg rfl rfl) rfl rfl ?_
 refine ry (y_asg rfl rfl) rfl rfl ?_
 refine reg_nil ?_
 refine fn_next ?_
 refine cw_seq ?_
 refine cw_reg ?_
 refine ry (y_mov rfl rfl) rfl rfl ?_
 refine reg_op (op_call (gTilesZ g a h N (vZ Z N) Z D _ (R.below H0.base)) rfl kffile4_1 ⟨rfl, trivial⟩) rfl rfl ?_
 rintro _ w2 ⟨A4, c5, rfl, k1⟩
 have H3 := H0.call k1
 refine ry (y_asg rfl rfl) rfl rfl ?_
 refine reg_nil ?_
 refine fn_next ?_
 refine cw_seq ?_
 refine cw_block ?_
 refine cw_seq ?_
 refine cw_reg ?_
 refine ry (y_mov rfl rfl) rfl rfl ?_
 refine ry (y_peqlnil rfl Tryz.underlying30 rfl rfl) rfl rfl ?_
 refine ry (y_asg rfl rfl) rfl rfl ?_
 refine reg_nil ?_
 refine fn_next ?_
 refine cw_condf rfl ?_
 refine cw_seq ?_
 refine cw_reg ?_
 refine ry (y_mov rfl rfl) rfl rfl ?_
 refine ry (y_len rfl Tryz.underlying27 rfl) rfl rfl ?_
 refine ry (y_mov rfl rfl) rfl rfl ?_
 refine ry (y_len rfl Tryz.underlying47 rfl) rfl rfl ?_
 refine ry (y_neq rfl rfl rfl) rfl rfl ?_
 refine ry (y_asg rfl rfl) rfl rfl ?_
 refine reg_nil ?_
 refine fn_next ?_
 refine cw_condd rfl (fun h6 => ?_) (fun h6 => ?_)
 · exact absurd rfl h6
 ·skip
  refine cw_seq ?_
  refine cw_reg ?_
  refine ry (y_mov rfl rfl) rfl rfl ?_
  refine reg_op (op_call (ret_v (v := .bool false) (containsK K N ck (kZ Z N) _ (hk.below H3.base) hkl (by omega)) (by rw [kAll_kZ D hB hf]; rfl)) rfl kffile4_2 ⟨rfl, rfl, trivial⟩) rfl rfl ?_
  rintro _ w8 ⟨rfl, e7⟩
  have H9 := H3.ext e7
  refine ry (y_asg rfl rfl) rfl rfl ?_
  refine reg_nil ?_
  refine fn_next ?_
  refine cw_condf rfl ?_
  refine cw_skip ?_
  refine fn_block ?_
  refine fn_next ?_
  refine cw_seq ?_
  refine cw_reg ?_
  refine ry (y_asg rfl rfl) rfl rfl ?_
  refine reg_nil ?_
  refine fn_next ?_
  refine cw_seq ?_
  refine cw_reg ?_
  refine ry (y_asg rfl rfl) rfl rfl ?_
  refine reg_nil ?_
  refine fn_next ?_
  refine cw_seq ?_
  refine cw_seq ?_
  refine cw_reg ?_
  refine ry (y_mov rfl rfl) rfl rfl ?_
  refine ry (y_len rfl Tryz.underlying47 rfl) rfl rfl ?_
  refine ry (y_mov rfl rfl) rfl rfl ?_
  refine reg_nil ?_
  refine fn_next ?_
  refine cw_block ?_
  have H10 := H9.nilrow 2 1
  have H11 := H10.nilrow 22 1
  have H12 := HS.nilA (f := Bp.ob) H11
  refine cw_loopJ [7, 8, 9, 10, 11, 12, 13, 14, 15, 16, 37, 38, 39, 40, 41, 42, 43, 44, 45, 46, 47, 48, 49, 50, 51, 52, 53, 54, 55, 56, 57, 58, 59, 60, 61, 62, 63, 64, 65, 66, 67, 68, 69, 70, 71, 72, 73] (fun M wl ml => ∃ (i : Nat) (A1 : Option Addr) (c1 : Nat) (A2 : Option Addr) (c2 : Nat) (ps : List Bp), M = [(37, .int .i64 (i : Int)), (7, .slice A1 i c1), (8, .slice A2 i c2)] ∧ HS w wl [Ob.row A1 i c1 (vi .i64 ((lensZ Z).take i)) 2 1, Ob.row A2 i c2 (ps.map Bp.v) 22 1, obA Bp.ob ps, Ob.row A4 N c5 (rcells (tilesZ Z)) 54 4] ∧ (i ≤ N) ∧ (ps.length = i) ∧ (ps.map (·.bs) = (List.range i).map (tbZ Z)) ∧ ml = N + 1 - i) ⟨0, _, _, _, _, [], rfl, (H12.pick (m := [_, _, _, _]) [2, 1, 0, 3] rfl (by decide)), Nat.zero_le _, rfl, rfl, rfl⟩ ⟨rfl, rfl, rfl, trivial⟩ ?_
  rintro M w13 m15 ⟨i, A1, c1, A2, c2, ps, rfl, H14, hin, hpl, hps, rfl⟩
  refine cw_seq ?_
  refine cw_reg ?_
  refine ry (y_lss rfl rfl rfl) rfl rfl ?_
  refine reg_nil ?_
  refine fn_next ?_
  refine cw_seq ?_
  refine cw_condd rfl (fun h16 => ?_) (fun h16 => ?_)
  ·skip
   have hi : i < N := by omega
   have htp := tile_part D hi
   have hTi := (tile_ok D hi).1
   obtain ⟨d1, d2, d3, d4, d5, d6, d7, d8⟩ := hTi
   obtain ⟨z1, z2, z3, z4⟩ := id D.sz
   have hsz : (0 ≤ (tileZ Z i).x0 ∧ (tileZ Z i).x0 ≤ (tileZ Z i).x1 ∧ (tileZ Z i).x1 ≤ 1024) ∧ 0 ≤ (tileZ Z i).y0 ∧ (tileZ Z i).y0 ≤ (tileZ Z i).y1 ∧ (tileZ Z i).y1 ≤ 1024 := by omega
   have gz := vi_get (k := .i64) (zs := kZ Z N) (i := i) (by omega)
   rw [kZ_at hi] at gz
   have htl : (tbZ Z i).length ≤ 6000 := Nat.le_trans (by unfold tbZ; rw [List.length_take, List.length_drop]; omega) hZ
   refine cw_skip ?_
   refine fn_next ?_
   refine cw_seq ?_
   refine cw_block ?_
   refine cw_seq ?_
   refine cw_reg ?_
   refine ry (y_mov rfl rfl) rfl rfl ?_
   refine ry (y_iar (i := i) (H14.rd (i := 3) rfl) rfl rfl rfl kffile4_3 (rfl) (by omega) (rfl) (htp 0 _ rfl)) rfl rfl ?_
   refine ry (y_ldra (cs := [_, _, _, _]) (H14.rd (i := 3) rfl) rfl rfl kffile4_4 rfl (by decide) (htp)) rfl rfl ?_
   refine reg_op (op_alloc H14 rfl kffile4_5) rfl rfl ?_
   rintro _ w18 ⟨b17, rfl, H19⟩
   refine ry (y_asg rfl rfl) rfl rfl ?_
   refine reg_op (op_st (i := 0) (vs := [.int _ _, .int _ _, .int _ _, .int _ _]) H19 rfl rfl rfl rfl rfl kffile4_6 rfl rfl rfl) rfl rfl ?_
   rintro _ w20 H21
   refine reg_nil ?_
   refine fn_next ?_
   refine cw_seq ?_
   refine cw_reg ?_
   refine ry (y_mov rfl rfl) rfl rfl ?_
   refine ry (y_ldb (i := 0) (cs := [_, _, _, _]) H21 rfl rfl kffile4_4 rfl rfl) rfl rfl ?_
   refine reg_op (op_call (gValuesZ g a h N Z D hB hf i hi _ (R.below H21.base)) rfl kffile4_7 ⟨rfl, rfl, trivial⟩) rfl rfl ?_
   rintro _ w23 ⟨A25, c26, rfl, k22⟩
   have H24 := H21.call k22
   refine ry (y_mov rfl rfl) rfl rfl ?_
   refine ry (y_ext rfl rfl rfl) rfl rfl ?_
   refine ry (y_ext rfl rfl rfl) rfl rfl ?_
   refine ry (y_asg rfl rfl) rfl rfl ?_
   refine ry (y_asg rfl rfl) rfl rfl ?_
   refine reg_nil ?_
   refine fn_next ?_
   refine cw_seq ?_
   refine cw_reg ?_
   refine ry (y_ldb (i := 1) (cs := [_, _, _, _]) H24 rfl rfl kffile4_4 rfl rfl) rfl rfl ?_
   refine reg_op (op_call (fSize _ _ _ _ _ hsz) rfl kffile4_8 ⟨rfl, trivial⟩) rfl rfl ?_
   rintro _ w28 ⟨rfl, e27⟩
   have H29 := H24.ext e27
   refine ry (y_mov rfl rfl) rfl rfl ?_
   refine ry (y_ext rfl rfl rfl) rfl rfl ?_
   refine ry (y_ext rfl rfl rfl) rfl rfl ?_
   refine ry (y_asg rfl rfl) rfl rfl ?_
   refine ry (y_asg rfl rfl) rfl rfl ?_
   refine reg_nil ?_
   refine fn_next ?_
   refine cw_seq ?_
   refine cw_reg ?_
   refine ry (y_mov rfl rfl) rfl rfl ?_
   refine ry (y_mov rfl rfl) rfl rfl ?_
   refine ry (y_iar (hk.below H29.base) rfl rfl rfl kffile4_9 (rfl) (by omega) (Nat.mul_one _) (gz)) rfl rfl ?_
   refine ry (y_ldr (hk.below H29.base) rfl rfl kffile4_10 (gz)) rfl rfl ?_
   refine ry (y_mov rfl rfl) rfl rfl ?_
   refine ry (y_mov rfl rfl) rfl rfl ?_
   refine ry (y_mov rfl rfl) rfl rfl ?_
   refine reg_op (op_call (tilePutZ Z a h i (tgs_ok D hB hf hi) _ _ _ _ _ rfl rfl (H29.rd (i := 0) rfl) (H29.len (i := 0) rfl).2.1) rfl kffile4_11 ⟨rfl, rfl, rfl, rfl, trivial⟩) rfl rfl ?_
   rintro _ w31 ⟨A33, c34, rfl, k30⟩
   have H32 := H29.call k30
   refine ry (y_mov rfl rfl) rfl rfl ?_
   refine ry (y_ext rfl rfl rfl) rfl rfl ?_
   refine ry (y_ext rfl rfl rfl) rfl rfl ?_
   refine ry (y_asg rfl rfl) rfl rfl ?_
   refine ry (y_asg rfl rfl) rfl rfl ?_
   refine reg_nil ?_
   refine fn_next ?_
   refine cw_seq ?_
   refine cw_reg ?_
   refine ry (y_mov rfl rfl) rfl rfl ?_
   refine ry (y_mov rfl rfl) rfl rfl ?_
   refine ry (y_len rfl Tryz.underlying22 rfl) rfl rfl ?_
   refine reg_op (op_lit (parts := [(0, _)]) (vs := [(0, _)]) (cs := [.int _ _]) H32 rfl Tryz.underlying24 kffile4_12 rfl ⟨rfl, trivial⟩ rfl rfl) rfl rfl ?_
   rintro _ w36 ⟨b35, rfl, H37⟩
   have H38 := H37.asrow (m := 1) (size := 1) rfl (by decide)
   refine reg_op (op_app (i := 4) (ys := [.int .i64 _]) H38 rfl rfl rfl rfl (H38.rd (i := 0) rfl) (rfl) (rfl) Tryz.underlying24 kffile4_13 rfl rfl (by unfold maxLen; omega) (by omega)) rfl rfl ?_
   rintro _ w41 ⟨A39, c40, rfl, H42⟩
   refine ry (y_asg rfl rfl) rfl rfl ?_
   refine reg_nil ?_
   refine fn_next ?_
   refine cw_reg ?_
   refine ry (y_mov rfl rfl) rfl rfl ?_
   refine ry (y_mov rfl rfl) rfl rfl ?_
   refine reg_op (op_lit (parts := [(0, _)]) (vs := [(0, _)]) (cs := [.slice _ _ _]) H42 rfl Tryz.underlying69 kffile4_14 rfl ⟨rfl, trivial⟩ rfl rfl) rfl rfl ?_
   rintro _ w44 ⟨b43, rfl, H45⟩
   have H46 := H45.asrow (m := 1) (size := 1) rfl (by decide)
   refine reg_op (op_app (i := 6) (ys := [.slice _ _ _]) H46 rfl rfl rfl rfl (H46.rd (i := 0) rfl) (rfl) (rfl) Tryz.underlying69 kffile4_15 rfl rfl (by unfold maxLen; omega) (by omega)) rfl rfl ?_
   rintro _ w49 ⟨A47, c48, rfl, H50⟩
   refine ry (y_asg rfl rfl) rfl rfl ?_
   refine reg_nil ?_
   refine fn_block ?_
   refine fn_next ?_
   refine cw_reg ?_
   refine ry (y_add rfl rfl rfl (wi (by omega))) rfl rfl ?_
   refine ry (y_mov rfl rfl) rfl rfl ?_
   refine reg_nil ?_
   have Hs := HS.snocA (f := Bp.ob) (xs := ps) (x := (⟨A33, c34, tbZ Z i⟩ : Bp)) ((H50.pick (m := [_, _, _, _, _]) [2, 7, 5, 6, 8] rfl (by decide)))
   rw [vi_snoc, lens_step D hf hi, show ps.map Bp.v ++ [Value.slice A33 (tbZ Z i).length c34] = (ps ++ [(⟨A33, c34, tbZ Z i⟩ : Bp)]).map Bp.v from by rw [List.map_append]; rfl] at Hs
   refine fn_roundJ ⟨i + 1, _, _, _, _, ps ++ [(⟨A33, c34, tbZ Z i⟩ : Bp)], rfl, (Hs.pick (m := [_, _, _, _]) [1, 2, 0, 3] rfl (by decide)), by omega, by rw [List.length_append, hpl]; rfl, by rw [List.map_append, hps, List.range_succ, List.map_append]; rfl, rfl⟩ ⟨rfl, rfl, rfl, trivial⟩ (by omega) (by repeat (first | exact kp_refl | refine kp_app rfl rfl ?_ | refine kp_cons rfl ?_)) rfl
  ·skip
   obtain rfl : N = i := by omega
   rw [List.take_of_length_le (show (lensZ Z).length ≤ N by rw [D.len]; exact Nat.le_refl _)] at H14
   have hj2 := join2 D hf hps none none 0 0
   have hfl : (flatP ps).length ≤ 6000 := by have := congrArg List.length hj2; unfold flatP at this ⊢; simp only [List.flatMap_cons, List.flatMap_nil, List.append_nil, List.length_append] at this; omega
   refine cw_exit ?_
   refine fn_then_exit (fn_then_exit (fn_block_exit ?_))
   refine fn_next ?_
   refine cw_seq ?_
   refine cw_reg ?_
   refine ry (y_mov rfl rfl) rfl rfl ?_
   refine reg_op (op_call (gSize g a h (vZ Z N)  _ (R.below H14.base)) rfl kffile4_16 ⟨rfl, trivial⟩) rfl rfl ?_
   rintro _ w52 ⟨rfl, e51⟩
   have H53 := H14.ext e51
   refine ry (y_mov rfl rfl) rfl rfl ?_
   refine ry (y_ext rfl rfl rfl) rfl rfl ?_
   refine ry (y_ext rfl rfl rfl) rfl rfl ?_
   refine ry (y_asg rfl rfl) rfl rfl ?_
   refine ry (y_asg rfl rfl) rfl rfl ?_
   refine reg_nil ?_
   refine fn_next ?_
   refine cw_seq ?_
   refine cw_reg ?_
   refine ry (y_mov rfl rfl) rfl rfl ?_
   refine ry (y_mov rfl rfl) rfl rfl ?_
   refine ry (y_mov rfl rfl) rfl rfl ?_
   refine reg_op (op_call (dirPutZ Z a h N D hB _ _ _ (H53.rd (i := 0) rfl)) rfl kffile4_17 ⟨rfl, rfl, rfl, trivial⟩) rfl rfl ?_
   rintro _ w55 ⟨A57, c58, rfl, k54⟩
   have H56 := H53.call k54
   refine ry (y_mov rfl rfl) rfl rfl ?_
   refine ry (y_ext rfl rfl rfl) rfl rfl ?_
   refine ry (y_ext rfl rfl rfl) rfl rfl ?_
   refine ry (y_asg rfl rfl) rfl rfl ?_
   refine ry (y_asg rfl rfl) rfl rfl ?_
   refine reg_nil ?_
   refine fn_next ?_
   refine cw_seq ?_
   refine cw_reg ?_
   refine ry (y_mov rfl rfl) rfl rfl ?_
   refine ry (y_mov rfl rfl) rfl rfl ?_
   refine reg_op (op_call (concatB _ N _ ps _ (H56.rd (i := 2) rfl) hpl (fun p hp => (HS.memA (H56.pick (m := [_]) [3] rfl (by decide)) hp).rd (i := 0) rfl) (by omega) (by omega)) rfl kffile4_18 ⟨rfl, trivial⟩) rfl rfl ?_
   rintro _ w60 ⟨A62, c63, rfl, k59⟩
   have H61 := H56.call k59
   refine reg_op (op_lit (parts := [(0, _), (1, _)]) (vs := [(0, _), (1, _)]) (cs := [.slice _ _ _, .slice _ _ _]) H61 rfl Tryz.underlying69 kffile4_14 rfl ⟨rfl, rfl, trivial⟩ rfl rfl) rfl rfl ?_
   rintro _ w65 ⟨b64, rfl, H66⟩
   have H67 := H66.asrow (m := 2) (size := 1) rfl (by decide)
   refine reg_op (op_call (concatB _ 2 _ [⟨A57, c58, Z.take (13 + 8 * N)⟩, ⟨A62, c63, flatP ps⟩] _ (H67.rd (i := 0) rfl) rfl (fun p hp => by rcases List.mem_cons.1 hp with rfl | hp; exact H67.rd (i := 2) rfl; obtain rfl := List.mem_singleton.1 hp; exact H67.rd (i := 1) rfl) (by rw [join2 D hf hps]; omega) (by omega)) rfl kffile4_18 ⟨rfl, trivial⟩) rfl rfl ?_
   rintro _ w69 ⟨A71, c72, rfl, k68⟩
   have H70 := H67.call k68
   refine reg_op (op_call (crcSeal _ _ _ _ (hg.below H70.base) (H70.rd (i := 0) rfl) (by rw [join2 D hf hps]; exact hB) (by rw [join2 D hf hps]; omega)) rfl kffile4_19 ⟨rfl, trivial⟩) rfl rfl ?_
   rintro _ w74 ⟨A76, c77, rfl, k73⟩
   have H75 := H70.call k73
   refine ry (y_asg rfl rfl) rfl rfl ?_
   refine ry (y_asg rfl rfl) rfl rfl ?_
   refine reg_nil ?_
   refine fn_next ?_
   refine cw_ret ?_
   refine fn_retn (vs := [_, _]) rfl ⟨rfl, rfl, trivial⟩ rfl ?_
   rw [join2 D hf hps] at H75 ⊢
   exact ⟨_, _, rfl, (H75.pick (m := [_]) [0] rfl (by decide))⟩

end Go.Proofs.YtbnjbgcadkdljaaGreatDoor
