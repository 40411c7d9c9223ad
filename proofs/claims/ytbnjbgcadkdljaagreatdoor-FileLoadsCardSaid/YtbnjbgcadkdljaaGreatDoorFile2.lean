/- Layer 14: a file is loaded. -/
import Derived.Test.YtbnjbgcadkdljaaGreatDoorFile1
import Derived.Test.YtbnjbgcadkdljaaGreatDoorPlain14c
import Derived.Test.YtbnjbgcadkdljaaGreatDoorRef10
import Derived.Test.YtbnjbgcadkdljaaGreatDoorDir4
import Derived.Test.YtbnjbgcadkdljaaGreatDoorTile2
set_option linter.unusedVariables false
set_option linter.unusedSimpArgs false
namespace Go.Proofs.YtbnjbgcadkdljaaGreatDoor
open Go Go.RowKit
theorem kffile2_1 : callB Tryz.prog 18 = true := by kernel_rfl
theorem kffile2_2 : callB Tryz.prog 19 = true := by kernel_rfl
theorem kffile2_3 : elB Tryz.prog 42 2 = true := by kernel_rfl
theorem kffile2_4 : aggB Tryz.prog 50 2 = true := by kernel_rfl
theorem kffile2_5 : (Tryz.prog.info? 50).bind (fun i => i.zero.map Value.cells) = some (List.toArray [(.int .i64 0), (.int .i64 0)]) := by kernel_rfl
theorem kffile2_6 : szB Tryz.prog 50 2 = true := by kernel_rfl
theorem kffile2_7 : fldB Tryz.prog 50 0 0 = true := by kernel_rfl
theorem kffile2_8 : oneB Tryz.prog 2 = true := by kernel_rfl
theorem kffile2_9 : fldB Tryz.prog 50 1 1 = true := by kernel_rfl
theorem kffile2_10 : callB Tryz.prog 10 = true := by kernel_rfl
theorem kffile2_11 : callB Tryz.prog 20 = true := by kernel_rfl
theorem kffile2_12 : elB Tryz.prog 47 4 = true := by kernel_rfl
theorem kffile2_13 : aggB Tryz.prog 54 4 = true := by kernel_rfl
theorem kffile2_14 : (Tryz.prog.info? 54).bind (fun i => i.zero.map Value.cells) = some (List.toArray [(.int .i64 0), (.int .i64 0), (.int .i64 0), (.int .i64 0)]) := by kernel_rfl
theorem kffile2_15 : szB Tryz.prog 54 4 = true := by kernel_rfl
theorem kffile2_16 : callB Tryz.prog 21 = true := by kernel_rfl
theorem kffile2_17 : elB Tryz.prog 22 1 = true := by kernel_rfl
theorem kffile2_18 : callB Tryz.prog 22 = true := by kernel_rfl
theorem kffile2_19 : callB Tryz.prog 23 = true := by kernel_rfl
theorem kffile2_20 : (Tryz.prog.info? 3).map (fun i => (i.size, i.zero.map Value.cells)) = some (1, some (List.toArray [(.int .i64 0)])) := by kernel_rfl
theorem kffile2_21 : (Tryz.prog.info? 3).map (fun i => (i.zero.map (·.cells.toList), i.size, i.bytes)) = some (some [(.int .i64 0)], 1, 8) := by kernel_rfl
section
variable {Z : List Int} {a h N i : Nat}
theorem tiles_zd (D : DirOk Z a h N) : piecesL ⟨0, 0, (a : Int) - 1, (h : Int) - 1⟩ = tilesZ Z := by unfold tilesZ; rw [D.w, D.hh]
theorem tile_part (D : DirOk Z a h N) (hi : i < N) : ∀ j v, ([.int .i64 (tileZ Z i).x0, .int .i64 (tileZ Z i).y0, .int .i64 (tileZ Z i).x1, .int .i64 (tileZ Z i).y1] : List Value)[j]? = some v → (rcells (tilesZ Z))[i * 4 + j]? = some v := rc_part (l := tilesZ Z) (i := i) (by rw [D.tiles]; exact hi)
theorem ent_cells (D : DirOk Z a h N) (hi : i < N) : ∀ j v, ([.int .i64 (offZ Z i : Int), .int .i64 (lenZ Z i : Int)] : List Value)[j]? = some v → (vi .i64 (entF (baseOf Z) (lensZ Z)))[i * 2 + j]? = some v := by
  obtain ⟨e1, e2⟩ := ent_at D hi
  intro j v hv
  rcases j with _ | _ | j
  · obtain rfl := Option.some.inj hv; exact e1
  · obtain rfl := Option.some.inj hv; exact e2
  · cases hv
theorem n_pos (D : DirOk Z a h N) : 1 ≤ N := by
  have h1 := tl_len D.sz
  rw [tiles_zd D, D.tiles] at h1
  rw [h1]
  obtain ⟨s1, s2, s3, s4⟩ := D.sz
  exact Nat.mul_le_mul (show 1 ≤ across h by unfold across; omega) (show 1 ≤ across a by unfold across; omega)
theorem vZ_zero (D : DirOk Z a h N) : vZ Z 0 = List.replicate (a * h) 0 := by unfold vZ tpsZ; rw [D.w, D.hh, Int.toNat_natCast, Int.toNat_natCast]; rfl
theorem tbz_len (D : DirOk Z a h N) (hi : i < N) (he : offZ Z (i + 1) ≤ Z.length) : (tbZ Z i).length = lenZ Z i := by
  have := off_succ D hi
  unfold tbZ
  rw [List.length_take, List.length_drop]; omega
theorem off_bd (D : DirOk Z a h N) (hi : i ≤ N) : offZ Z i ≤ 5000000000 := by
  have h1 := off_int D i
  have h2 := (sumL_bd (okL_take D.okl i)).2
  have h3 := D.base
  have h4 := D.bd
  rw [List.length_take, D.len] at h2
  have h5 : min i N ≤ 4096 := by omega
  omega
theorem fileP_of (D : DirOk Z a h N) (hend : offZ Z N = Z.length) (hall : ∀ i, i < N → (tgZ Z i).2.2 = 0) : fileP Z := ⟨by rw [D.dg], by rw [off_end D, hend], fun i hi => hall i (by rw [← D.n]; exact hi)⟩
theorem fileP_end (D : DirOk Z a h N) (hf : fileP Z) : offZ Z N = Z.length := by
  have := hf.2.1
  rw [off_end D] at this; omega
theorem fileP_all (D : DirOk Z a h N) (hf : fileP Z) (hi : i < N) : (tgZ Z i).2.2 = 0 := hf.2.2 i (by rw [D.n]; exact hi)
end
theorem rd_mid {w : World} {A : Option Addr} {c lo hi : Nat} {bs : List Int} (h : Rd w A (vi .u8 bs)) (h1 : lo ≤ hi) (h2 : hi ≤ c) : Rd w (subA A c lo 1) (vi .u8 ((bs.drop lo).take (hi - lo))) := by
  have h3 := Rd.slice (cap := c) (lo := lo) (hi := hi) (size := 1) h h1 h2
  rw [Nat.mul_one, Nat.mul_one, List.drop_take] at h3
  simpa [vi, List.map_take, List.map_drop] using h3
theorem rd_tb {w : World} {A : Option Addr} {c i : Nat} {Z : List Int} (h : Rd w A (vi .u8 Z)) (h2 : offZ Z i + lenZ Z i ≤ c) : Rd w (subA A c (offZ Z i) 1) (vi .u8 (tbZ Z i)) := by
  have h3 := rd_mid (lo := offZ Z i) (hi := offZ Z i + lenZ Z i) h (Nat.le_add_right _ _) h2
  rw [Nat.add_sub_cancel_left] at h3
  exact h3
theorem tg_len {Z : List Int} {a h i : Nat} (T : TgOk Z a h i) : (tgZ Z i).1.length ≤ 256 := by
  have t1 := T.t.x0; have t2 := T.t.x; have t4 := T.t.y0; have t5 := T.t.y; have t7 := T.t.wx; have t8 := T.t.wy
  have hl : (tgZ Z i).1.length = ((tileZ Z i).y1.toNat + 1 - (tileZ Z i).y0.toNat) * ((tileZ Z i).x1.toNat + 1 - (tileZ Z i).x0.toNat) := T.ok.2.2.2.2
  rw [hl]
  exact Nat.mul_le_mul (show _ ≤ 16 by omega) (show _ ≤ 16 by omega)

theorem dirGetZ (Z : List Int) (a h N : Nat) (D : DirOk Z a h N) (A : Option Addr) (m cap : Nat) (w : World) (hr : Rd w A (vi .u8 Z)) (hl : Z.length = m) (hm : m ≤ 1000000) (hcap : m ≤ cap) (hB : okB Z) :
    Ret Tryz.prog 19 [.slice A m cap] w (fun v w' => ∃ A cap, v = .tuple #[.int .i64 (a : Int), .int .i64 (h : Int), .slice A N cap, .int .i64 0] ∧ HS w w' [.row A N cap (vi .i64 (entF (baseOf Z) (lensZ Z))) 50 2]) := by
  have h1 := dirGet_any A m cap Z w hr hl hm hcap (okB_byt.1 hB)
  unfold DirGetR at h1
  rw [D.dg] at h1
  simp only [D.len] at h1
  exact h1
theorem dirGetZBad (Z : List Int) (A : Option Addr) (m cap : Nat) (w : World) (hr : Rd w A (vi .u8 Z)) (hl : Z.length = m) (hm : m ≤ 1000000) (hcap : m ≤ cap) (hB : okB Z) (hc : ¬ (dgS Z).2.2.2 = 0) :
    Ret Tryz.prog 19 [.slice A m cap] w (fun v w' => ∃ (x y : Int) (A' : Option Addr) (n' c' : Nat) (e : Int), v = .tuple #[.int .i64 x, .int .i64 y, .slice A' n' c', .int .i64 e] ∧ e ≠ 0 ∧ Below w.heap.size w w') := by
  have h1 := dirGet_any A m cap Z w hr hl hm hcap (okB_byt.1 hB)
  unfold DirGetR at h1
  refine Calls.mono h1 ?_
  rintro e w' ⟨z, rfl, A', c', rfl, H⟩
  exact ⟨_, rfl, _, _, _, _, _, _, rfl, hc, H.base⟩

theorem refDirGetZ (Z : List Int) (a h N : Nat) (D : DirOk Z a h N) (A : Option Addr) (m cap : Nat) (w : World) (hr : Rd w A (vi .u8 Z)) (hl : Z.length = m) (hm : m ≤ 1000000) (hcap : m ≤ cap) (hB : okB Z) :
    Ret Tryz.prog 12 [.slice A m cap] w (fun v w' => ∃ A cap, v = .tuple #[.int .i64 (a : Int), .int .i64 (h : Int), .slice A N cap, .int .i64 0] ∧ HS w w' [.row A N cap (vi .i64 (entF (baseOf Z) (lensZ Z))) 50 2]) := by
  have h1 := refDirGet_any A m cap Z w hr hl hm hcap (okB_byt.1 hB)
  unfold DirGetR at h1
  rw [D.dg] at h1
  simp only [D.len] at h1
  exact h1
theorem refDirGetZBad (Z : List Int) (A : Option Addr) (m cap : Nat) (w : World) (hr : Rd w A (vi .u8 Z)) (hl : Z.length = m) (hm : m ≤ 1000000) (hcap : m ≤ cap) (hB : okB Z) (hc : ¬ (dgS Z).2.2.2 = 0) :
    Ret Tryz.prog 12 [.slice A m cap] w (fun v w' => ∃ (x y : Int) (A' : Option Addr) (n' c' : Nat) (e : Int), v = .tuple #[.int .i64 x, .int .i64 y, .slice A' n' c', .int .i64 e] ∧ e ≠ 0 ∧ Below w.heap.size w w') := by
  have h1 := refDirGet_any A m cap Z w hr hl hm hcap (okB_byt.1 hB)
  unfold DirGetR at h1
  refine Calls.mono h1 ?_
  rintro e w' ⟨z, rfl, A', c', rfl, H⟩
  exact ⟨_, rfl, _, _, _, _, _, _, rfl, hc, H.base⟩

theorem tileGetZ (Z : List Int) (i : Nat) (p q : Int) (A : Option Addr) (n c : Nat) (w : World) (hp : (tileZ Z i).x1 - (tileZ Z i).x0 + 1 = p) (hq : (tileZ Z i).y1 - (tileZ Z i).y0 + 1 = q) (hr : Rd w A (vi .u8 (tbZ Z i))) (hl : (tbZ Z i).length = n) (hcap : n ≤ c) (hB : okB Z) (hn : n ≤ 100000000) :
    Ret Tryz.prog 22 [.slice A n c, .int .i64 p, .int .i64 q] w (fun v w' => ∃ A' c', v = .tuple #[.slice A' (tgZ Z i).1.length c', .int .i64 (tgZ Z i).2.1, .int .i64 (tgZ Z i).2.2] ∧ HS w w' [.row A' (tgZ Z i).1.length c' (vi .i64 (tgZ Z i).1) 2 1]) := by
  subst hp hq
  refine Calls.mono (tileGet _ _ (tbZ Z i) A n c w hr hl hcap (fun z hz => hB z (List.mem_of_mem_drop (List.mem_of_mem_take hz))) hn) ?_
  rintro e w' ⟨z, rfl, A', c', zs, k, e, rfl, hT, H⟩
  have hT' : tgZ Z i = (zs, k, e) := hT
  rw [hT']
  exact ⟨_, rfl, A', c', rfl, H⟩

theorem refTGetZ (Z : List Int) (i : Nat) (p q : Int) (A : Option Addr) (n c : Nat) (w : World) (hp : (tileZ Z i).x1 - (tileZ Z i).x0 + 1 = p) (hq : (tileZ Z i).y1 - (tileZ Z i).y0 + 1 = q) (hr : Rd w A (vi .u8 (tbZ Z i))) (hl : (tbZ Z i).length = n) (hcap : n ≤ c) (hB : okB Z) (hn : n ≤ 100000000) :
    Ret Tryz.prog 16 [.slice A n c, .int .i64 p, .int .i64 q] w (fun v w' => ∃ A' c', v = .tuple #[.slice A' (tgZ Z i).1.length c', .int .i64 (tgZ Z i).2.1, .int .i64 (tgZ Z i).2.2] ∧ HS w w' [.row A' (tgZ Z i).1.length c' (vi .i64 (tgZ Z i).1) 2 1]) := by
  subst hp hq
  refine Calls.mono (refTGet _ _ (tbZ Z i) A n c w hr hl hcap (fun z hz => hB z (List.mem_of_mem_drop (List.mem_of_mem_take hz))) hn) ?_
  rintro e w' ⟨z, rfl, A', c', zs, k, e, rfl, hT, H⟩
  have hT' : tgZ Z i = (zs, k, e) := hT
  rw [hT']
  exact ⟨_, rfl, A', c', rfl, H⟩

theorem gTilesZ (g a h N : Nat) (V : List Int) (Z : List Int) (D : DirOk Z a h N) (w : World) (R : GRd w g a h V) :
    Ret Tryz.prog 20 [.pointer (some ⟨g, 0, none⟩)] w (fun z w' => ∃ A cap, z = .slice A N cap ∧ HS w w' [.row A N cap (rcells (tilesZ Z)) 54 4]) := by
  have h1 := gTiles g a h V w R
  rw [tiles_zd D, D.tiles] at h1
  exact h1
theorem rTilesZ (Z : List Int) (a h N : Nat) (D : DirOk Z a h N) (A : Option Addr) (cap : Nat) (w : World) :
    Ret Tryz.prog 14 [.agg #[.int .i64 (a : Int), .int .i64 (h : Int), .slice A (a * h) cap]] w (fun z w' => ∃ A cap, z = .slice A N cap ∧ HS w w' [.row A N cap (rcells (tilesZ Z)) 54 4]) := by
  have h1 := rTiles a h A cap w D.sz
  rw [tiles_zd D, D.tiles] at h1
  exact h1

theorem gPasteZ (w0 : World) (l : List Ob) (g a h N : Nat) (Z : List Int) (D : DirOk Z a h N) (i : Nat) (T : TgOk Z a h i) (bl : Nat → Prop) (A : Option Addr) (cap : Nat) (w : World) (hr : ∀ X, HS w0 X l → Rd X A (vi .i64 (tgZ Z i).1)) (H0 : HS w0 w (gOb g a h (vZ Z i) bl :: l)) : Ret Tryz.prog 23 [.pointer (some ⟨g, 0, none⟩), .agg #[.int .i64 (tileZ Z i).x0, .int .i64 (tileZ Z i).y0, .int .i64 (tileZ Z i).x1, .int .i64 (tileZ Z i).y1], .slice A (tgZ Z i).1.length cap] w (fun z w' => ∃ bl', z = .int .i64 0 ∧ HS w0 w' (gOb g a h (vZ Z (i + 1)) bl' :: l)) := by
  have hl := tg_len T
  have h1 := gPaste w0 l g a h (vZ Z i) bl (tileZ Z i).x0 (tileZ Z i).y0 (tileZ Z i).x1 (tileZ Z i).y1 (tgZ Z i).1 A _ cap w hr rfl (by omega) H0
  rw [(paste_step D T).1, (paste_step D T).2] at h1
  exact h1
theorem mPasteZ (w0 : World) (l : List Ob) (a h N : Nat) (Z : List Int) (D : DirOk Z a h N) (i : Nat) (T : TgOk Z a h i) (A : Option Addr) (cap : Nat) (B : Option Addr) (c2 : Nat) (w : World) (hr : ∀ X, HS w0 X l → Rd X B (vi .i64 (tgZ Z i).1)) (H0 : HS w0 w (Ob.row A (a * h) cap (vi .i64 (vZ Z i)) 2 1 :: l)) : Ret Tryz.prog 17 [.agg #[.int .i64 (a : Int), .int .i64 (h : Int), .slice A (a * h) cap], .agg #[.int .i64 (tileZ Z i).x0, .int .i64 (tileZ Z i).y0, .int .i64 (tileZ Z i).x1, .int .i64 (tileZ Z i).y1], .slice B (tgZ Z i).1.length c2] w (fun z w' => ∃ A' cap', z = .tuple #[.agg #[.int .i64 (a : Int), .int .i64 (h : Int), .slice A' (a * h) cap'], .int .i64 0] ∧ HS w0 w' (Ob.row A' (a * h) cap' (vi .i64 (vZ Z (i + 1))) 2 1 :: l)) := by
  have hl := tg_len T
  have h1 := mPaste w0 l a h A cap (vZ Z i) (tileZ Z i).x0 (tileZ Z i).y0 (tileZ Z i).x1 (tileZ Z i).y1 (tgZ Z i).1 B _ c2 w D.sz (vZ_len D i) hr rfl (by omega) H0
  rw [(paste_step D T).1, (paste_step D T).2] at h1
  exact h1

def FLoadR (Z : List Int) (a h N : Nat) (w : World) (v : Value) (w' : World) : Prop := (fileP Z ∧ ∃ g bl A' c', v = .tuple #[.pointer (some ⟨g, 0, none⟩), .slice A' N c', .int .i64 0] ∧ HS w w' [gOb g a h (vZ Z N) bl, .row A' N c' (vi .i64 (kZ Z N)) 3 1]) ∨ (¬ fileP Z ∧ v = .tuple #[.pointer none, .slice none 0 0, .int .i64 10] ∧ Below w.heap.size w w')

set_option maxRecDepth 100000 in
theorem fLoad_un (A : Option Addr) (n c : Nat) (bs : List Int) (w : World) (hg : Rd w (some ⟨0, 0, none⟩) (vi .u32 tblI)) (hb : Rd w A (vi .u8 bs)) (hl : bs.length = n) (hcap : n ≤ c) (hB : okB bs) (hn : n ≤ 6000) (hs : ¬ seald bs) :
    Ret Tryz.prog 6 [.slice A n c] w (fun v w' => v = .tuple #[.pointer none, .slice none 0 0, .int .i64 10] ∧ Below w.heap.size w w') := by
 refine ret_enter Tryz.func6 rfl rfl rfl ?_
 have H0 := HS.start w
 refine cw_seq ?_
 refine cw_reg ?_
 refine ry (y_asg rfl rfl) rfl rfl ?_
 refine ry (y_asg rfl rfl) rfl rfl ?_
 refine ry (y_asg rfl rfl) rfl rfl ?_
 refine reg_nil ?_
 refine fn_next ?_
 refine cw_seq ?_
 refine cw_reg ?_
 refine ry (y_mov rfl rfl) rfl rfl ?_
 refine reg_op (op_call (crcOpenBad A n c bs _ (hg.below H0.base) (hb.below H0.base) hl hcap hB (by omega) hs) rfl kffile2_1 ⟨rfl, trivial⟩) rfl rfl ?_
 rintro _ w2 ⟨e14, rfl, he, e1⟩
 have H3 := H0.ext e1
 refine ry (y_mov rfl rfl) rfl rfl ?_
 refine ry (y_ext rfl rfl rfl) rfl rfl ?_
 refine ry (y_ext rfl rfl rfl) rfl rfl ?_
 refine ry (y_asg rfl rfl) rfl rfl ?_
 refine ry (y_asg rfl rfl) rfl rfl ?_
 refine reg_nil ?_
 refine fn_next ?_
 refine cw_seq ?_
 refine cw_seq ?_
 refine cw_reg ?_
 refine ry (y_mov rfl rfl) rfl rfl ?_
 refine ry (y_neq rfl rfl rfl) rfl rfl ?_
 refine reg_nil ?_
 refine fn_next ?_
 refine cw_condd rfl (fun h4 => ?_) (fun h4 => ?_)
 ·skip
  refine cw_seq ?_
  refine cw_reg ?_
  refine ry (y_asg rfl rfl) rfl rfl ?_
  refine ry (y_asg rfl rfl) rfl rfl ?_
  refine ry (y_asg rfl rfl) rfl rfl ?_
  refine reg_nil ?_
  refine fn_next ?_
  refine cw_ret ?_
  refine fn_then_ret ?_
  refine fn_retn (vs := [_, _, _]) rfl ⟨rfl, rfl, rfl, trivial⟩ rfl ?_
  exact ⟨rfl, H3.base⟩
 · exact absurd (Classical.not_not.1 h4) he

set_option maxRecDepth 100000 in
theorem fLoad_dir (A : Option Addr) (n c : Nat) (bs : List Int) (w : World) (hg : Rd w (some ⟨0, 0, none⟩) (vi .u32 tblI)) (hb : Rd w A (vi .u8 bs)) (hl : bs.length = n) (hcap : n ≤ c) (hB : okB bs) (hn : n ≤ 6000) (hs : seald bs) (hc : ¬ (dgS (bs.take (n - 4))).2.2.2 = 0) :
    Ret Tryz.prog 6 [.slice A n c] w (fun v w' => v = .tuple #[.pointer none, .slice none 0 0, .int .i64 10] ∧ Below w.heap.size w w') := by
 have hBt := okB_take hB (n - 4)
 have hlt : (bs.take (n - 4)).length = n - 4 := by rw [List.length_take]; omega
 refine ret_enter Tryz.func6 rfl rfl rfl ?_
 have H0 := HS.start w
 refine cw_seq ?_
 refine cw_reg ?_
 refine ry (y_asg rfl rfl) rfl rfl ?_
 refine ry (y_asg rfl rfl) rfl rfl ?_
 refine ry (y_asg rfl rfl) rfl rfl ?_
 refine reg_nil ?_
 refine fn_next ?_
 refine cw_seq ?_
 refine cw_reg ?_
 refine ry (y_mov rfl rfl) rfl rfl ?_
 refine reg_op (op_call (crcOpenOk A n c bs _ (hg.below H0.base) (hb.below H0.base) hl hcap hB (by omega) hs) rfl kffile2_1 ⟨rfl, trivial⟩) rfl rfl ?_
 rintro _ w2 ⟨A4, c5, rfl, k1⟩
 have H3 := H0.call k1
 refine ry (y_mov rfl rfl) rfl rfl ?_
 refine ry (y_ext rfl rfl rfl) rfl rfl ?_
 refine ry (y_ext rfl rfl rfl) rfl rfl ?_
 refine ry (y_asg rfl rfl) rfl rfl ?_
 refine ry (y_asg rfl rfl) rfl rfl ?_
 refine reg_nil ?_
 refine fn_next ?_
 refine cw_seq ?_
 refine cw_seq ?_
 refine cw_reg ?_
 refine ry (y_mov rfl rfl) rfl rfl ?_
 refine ry (y_neq rfl rfl rfl) rfl rfl ?_
 refine reg_nil ?_
 refine fn_next ?_
 refine cw_condf rfl ?_
 refine cw_skip ?_
 refine fn_next ?_
 refine cw_seq ?_
 refine cw_reg ?_
 refine ry (y_mov rfl rfl) rfl rfl ?_
 refine reg_op (op_call (dirGetZBad (bs.take (n - 4)) _ (n - 4) _ _ (H3.rd (i := 0) rfl) hlt (by omega) ((H3.len (i := 0) rfl).2.1) hBt hc) rfl kffile2_2 ⟨rfl, trivial⟩) rfl rfl ?_
 rintro _ w7 ⟨x14, y14, A14, n14, c14, e14, rfl, he, e6⟩
 have H8 := H3.ext e6
 refine ry (y_mov rfl rfl) rfl rfl ?_
 refine ry (y_ext rfl rfl rfl) rfl rfl ?_
 refine ry (y_ext rfl rfl rfl) rfl rfl ?_
 refine ry (y_ext rfl rfl rfl) rfl rfl ?_
 refine ry (y_ext rfl rfl rfl) rfl rfl ?_
 refine ry (y_asg rfl rfl) rfl rfl ?_
 refine ry (y_asg rfl rfl) rfl rfl ?_
 refine ry (y_asg rfl rfl) rfl rfl ?_
 refine ry (y_asg rfl rfl) rfl rfl ?_
 refine reg_nil ?_
 refine fn_next ?_
 refine cw_seq ?_
 refine cw_seq ?_
 refine cw_reg ?_
 refine ry (y_mov rfl rfl) rfl rfl ?_
 refine ry (y_neq rfl rfl rfl) rfl rfl ?_
 refine reg_nil ?_
 refine fn_next ?_
 refine cw_condd rfl (fun h9 => ?_) (fun h9 => ?_)
 ·skip
  refine cw_seq ?_
  refine cw_reg ?_
  refine ry (y_asg rfl rfl) rfl rfl ?_
  refine ry (y_asg rfl rfl) rfl rfl ?_
  refine ry (y_asg rfl rfl) rfl rfl ?_
  refine reg_nil ?_
  refine fn_next ?_
  refine cw_ret ?_
  refine fn_then_ret ?_
  refine fn_retn (vs := [_, _, _]) rfl ⟨rfl, rfl, rfl, trivial⟩ rfl ?_
  exact ⟨rfl, H8.base⟩
 · exact absurd (Classical.not_not.1 h9) he

set_option maxRecDepth 100000 in
set_option maxHeartbeats 2000000 in
theorem fLoad_D (A : Option Addr) (n c : Nat) (bs : List Int) (a h N : Nat) (w : World) (hg : Rd w (some ⟨0, 0, none⟩) (vi .u32 tblI)) (hb : Rd w A (vi .u8 bs)) (hl : bs.length = n) (hcap : n ≤ c) (hB : okB bs) (hn : n ≤ 6000) (hs : seald bs) (D : DirOk (bs.take (n - 4)) a h N) :
    Ret Tryz.prog 6 [.slice A n c] w (FLoadR (bs.take (n - 4)) a h N w) := by
 have hBt := okB_take hB (n - 4)
 have hlt : (bs.take (n - 4)).length = n - 4 := by rw [List.length_take]; omega
 have hN1 := n_pos D
 have hbN := D.bd
 have hob := off_bd D (Nat.le_refl N)
 have hos := off_succ D (i := N - 1) (by omega)
 rw [show N - 1 + 1 = N by omega] at hos
 have hen := ent_cells D (i := N - 1) (by omega)
 refine ret_enter Tryz.func6 rfl rfl rfl ?_
 have H0 := HS.start w
 refine cw_seq ?_
 refine cw_reg ?_
 refine ry (y_asg rfl rfl) rfl rfl ?_
 refine ry (y_asg rfl rfl) rfl rfl ?_
 refine ry (y_asg rfl rfl) rfl rfl ?_
 refine reg_nil ?_
 refine fn_next ?_
 refine cw_seq ?_
 refine cw_reg ?_
 refine ry (y_mov rfl rfl) rfl rfl ?_
 refine reg_op (op_call (crcOpenOk A n c bs _ (hg.below H0.base) (hb.below H0.base) hl hcap hB (by omega) hs) rfl kffile2_1 ⟨rfl, trivial⟩) rfl rfl ?_
 rintro _ w2 ⟨A4, c5, rfl, k1⟩
 have H3 := H0.call k1
 refine ry (y_mov rfl rfl) rfl rfl ?_
 refine ry (y_ext rfl rfl rfl) rfl rfl ?_
 refine ry (y_ext rfl rfl rfl) rfl rfl ?_
 refine ry (y_asg rfl rfl) rfl rfl ?_
 refine ry (y_asg rfl rfl) rfl rfl ?_
 refine reg_nil ?_
 refine fn_next ?_
 refine cw_seq ?_
 refine cw_seq ?_
 refine cw_reg ?_
 refine ry (y_mov rfl rfl) rfl rfl ?_
 refine ry (y_neq rfl rfl rfl) rfl rfl ?_
 refine reg_nil ?_
 refine fn_next ?_
 refine cw_condf rfl ?_
 refine cw_skip ?_
 refine fn_next ?_
 refine cw_seq ?_
 refine cw_reg ?_
 refine ry (y_mov rfl rfl) rfl rfl ?_
 refine reg_op (op_call (dirGetZ (bs.take (n - 4)) a h N D _ (n - 4) _ _ (H3.rd (i := 0) rfl) hlt (by omega) ((H3.len (i := 0) rfl).2.1) hBt) rfl kffile2_2 ⟨rfl, trivial⟩) rfl rfl ?_
 rintro _ w7 ⟨A9, c10, rfl, k6⟩
 have H8 := H3.call k6
 refine ry (y_mov rfl rfl) rfl rfl ?_
 refine ry (y_ext rfl rfl rfl) rfl rfl ?_
 refine ry (y_ext rfl rfl rfl) rfl rfl ?_
 refine ry (y_ext rfl rfl rfl) rfl rfl ?_
 refine ry (y_ext rfl rfl rfl) rfl rfl ?_
 refine ry (y_asg rfl rfl) rfl rfl ?_
 refine ry (y_asg rfl rfl) rfl rfl ?_
 refine ry (y_asg rfl rfl) rfl rfl ?_
 refine ry (y_asg rfl rfl) rfl rfl ?_
 refine reg_nil ?_
 refine fn_next ?_
 refine cw_seq ?_
 refine cw_seq ?_
 refine cw_reg ?_
 refine ry (y_mov rfl rfl) rfl rfl ?_
 refine ry (y_neq rfl rfl rfl) rfl rfl ?_
 refine reg_nil ?_
 refine fn_next ?_
 refine cw_condf rfl ?_
 refine cw_skip ?_
 refine fn_next ?_
 refine cw_seq ?_
 refine cw_reg ?_
 refine ry (y_mov rfl rfl) rfl rfl ?_
 refine ry (y_mov rfl rfl) rfl rfl ?_
 refine ry (y_len rfl Tryz.underlying42 rfl) rfl rfl ?_
 refine ry (y_sub rfl rfl rfl (show _ = ((N - 1 : Nat) : Int) from (wi (by omega)).trans (by omega))) rfl rfl ?_
 refine ry (y_iar (i := N - 1) (H8.rd (i := 0) rfl) rfl rfl rfl kffile2_3 (rfl) (by omega) (rfl) (hen 0 _ rfl)) rfl rfl ?_
 refine ry (y_ldra (cs := [_, _]) (H8.rd (i := 0) rfl) rfl rfl kffile2_4 rfl (by decide) (hen)) rfl rfl ?_
 refine reg_op (op_alloc H8 rfl kffile2_5) rfl rfl ?_
 rintro _ w12 ⟨b11, rfl, H13⟩
 refine reg_op (op_st (i := 0) (vs := [.int _ _, .int _ _]) H13 rfl rfl rfl rfl rfl kffile2_6 rfl rfl rfl) rfl rfl ?_
 rintro _ w14 H15
 refine reg_nil ?_
 refine fn_next ?_
 refine cw_seq ?_
 refine cw_seq ?_
 refine cw_reg ?_
 refine ry (y_fa rfl rfl kffile2_7 rfl) rfl rfl ?_
 refine ry (y_ld rfl rfl kffile2_8 (H15.cell (i := 0) rfl rfl)) rfl rfl ?_
 refine ry (y_fa rfl rfl kffile2_9 rfl) rfl rfl ?_
 refine ry (y_ld rfl rfl kffile2_8 (H15.cell (i := 0) rfl rfl)) rfl rfl ?_
 refine ry (y_add rfl rfl rfl (wi (by omega))) rfl rfl ?_
 refine ry (y_mov rfl rfl) rfl rfl ?_
 refine ry (y_len rfl Tryz.underlying22 rfl) rfl rfl ?_
 refine ry (y_neq rfl rfl rfl) rfl rfl ?_
 refine reg_nil ?_
 refine fn_next ?_
 refine cw_condd rfl (fun hne => ?_) (fun hne => ?_)
 ·skip
  refine cw_seq ?_
  refine cw_reg ?_
  refine ry (y_asg rfl rfl) rfl rfl ?_
  refine ry (y_asg rfl rfl) rfl rfl ?_
  refine ry (y_asg rfl rfl) rfl rfl ?_
  refine reg_nil ?_
  refine fn_next ?_
  refine cw_ret ?_
  refine fn_then_ret ?_
  refine fn_retn (vs := [_, _, _]) rfl ⟨rfl, rfl, rfl, trivial⟩ rfl ?_
  exact .inr ⟨fun hf => hne (by have := fileP_end D hf; omega), rfl, H15.base⟩
 ·skip
  have hend : offZ (bs.take (n - 4)) N = n - 4 := by have := Classical.not_not.1 hne; omega
  refine cw_skip ?_
  refine fn_next ?_
  refine cw_seq ?_
  refine cw_reg ?_
  refine ry (y_mov rfl rfl) rfl rfl ?_
  refine ry (y_mov rfl rfl) rfl rfl ?_
  refine reg_op (op_call (gNew_ok a h 0 _ (D.sz) (by decide)) rfl kffile2_10 ⟨rfl, rfl, rfl, trivial⟩) rfl rfl ?_
  rintro _ w18 ⟨g20, bl21, rfl, k17⟩
  have H19 := H15.call k17
  refine ry (y_mov rfl rfl) rfl rfl ?_
  refine ry (y_ext rfl rfl rfl) rfl rfl ?_
  refine ry (y_ext rfl rfl rfl) rfl rfl ?_
  refine ry (y_asg rfl rfl) rfl rfl ?_
  refine ry (y_asg rfl rfl) rfl rfl ?_
  refine reg_nil ?_
  refine fn_next ?_
  refine cw_seq ?_
  refine cw_reg ?_
  refine ry (y_asg rfl rfl) rfl rfl ?_
  refine reg_nil ?_
  refine fn_next ?_
  refine cw_seq ?_
  refine cw_seq ?_
  refine cw_reg ?_
  refine ry (y_mov rfl rfl) rfl rfl ?_
  refine reg_op (op_call (gTilesZ g20 a h N (List.replicate (a * h) 0) (bs.take (n - 4)) D _ (H19.rdg (i := 0) rfl)) rfl kffile2_11 ⟨rfl, trivial⟩) rfl rfl ?_
  rintro _ w23 ⟨A25, c26, rfl, k22⟩
  have H24 := H19.call k22
  refine ry (y_len rfl Tryz.underlying47 rfl) rfl rfl ?_
  refine ry (y_mov rfl rfl) rfl rfl ?_
  refine reg_nil ?_
  refine fn_next ?_
  refine cw_block ?_
  rw [← vZ_zero D] at H24
  have H27 := H24.nilrow 3 1
  refine cw_loopJ [2, 3, 4, 12, 13, 14, 15, 16, 17, 18, 19, 20, 60, 61, 62, 63, 64, 65, 66, 67, 68, 69, 70, 71, 72, 73, 74, 75, 76, 77, 78, 79, 80, 81, 82, 83, 84, 85, 86, 87, 88, 89, 90, 91, 92, 93, 94, 95, 96, 97, 98, 99, 100] (fun M wl ml => ∃ (i : Nat) (A1 : Option Addr) (c1 : Nat) (bl1 : Nat → Prop), M = [(60, .int .i64 (i : Int)), (12, .slice A1 i c1)] ∧ HS w wl [Ob.row A1 i c1 (vi .i64 (kZ (bs.take (n - 4)) i)) 3 1, gOb g20 a h (vZ (bs.take (n - 4)) i) bl1, Ob.row A25 N c26 (rcells (tilesZ (bs.take (n - 4)))) 54 4, Ob.row A9 N c10 (vi .i64 (entF (baseOf (bs.take (n - 4))) (lensZ (bs.take (n - 4))))) 50 2, Ob.row A4 (n - 4) c5 (vi .u8 (bs.take (n - 4))) 5 1] ∧ (i ≤ N) ∧ (∀ j, j < i → (tgZ (bs.take (n - 4)) j).2.2 = 0) ∧ ml = N + 1 - i) ⟨0, _, _, _, rfl, (H27.pick (m := [_, _, _, _, _]) [0, 2, 1, 4, 5] rfl (by decide)), Nat.zero_le _, fun j hj => absurd hj (Nat.not_lt_zero _), rfl⟩ ⟨rfl, rfl, trivial⟩ ?_
  rintro M w28 m30 ⟨i, A1, c1, bl1, rfl, H29, hin, hall, rfl⟩
  refine cw_seq ?_
  refine cw_reg ?_
  refine ry (y_lss rfl rfl rfl) rfl rfl ?_
  refine reg_nil ?_
  refine fn_next ?_
  refine cw_seq ?_
  refine cw_condd rfl (fun h31 => ?_) (fun h31 => ?_)
  ·skip
   have hi : i < N := by omega
   have htp := tile_part D hi
   have hen2 := ent_cells D hi
   have hos2 := off_succ D hi
   have hom := off_mono D (i := i + 1) N (by omega) (Nat.le_refl _)
   have hTi := (tile_ok D hi).1
   obtain ⟨d1, d2, d3, d4, d5, d6, d7, d8⟩ := hTi
   obtain ⟨z1, z2, z3, z4⟩ := id D.sz
   have hsz : (0 ≤ (tileZ (bs.take (n - 4)) i).x0 ∧ (tileZ (bs.take (n - 4)) i).x0 ≤ (tileZ (bs.take (n - 4)) i).x1 ∧ (tileZ (bs.take (n - 4)) i).x1 ≤ 1024) ∧ 0 ≤ (tileZ (bs.take (n - 4)) i).y0 ∧ (tileZ (bs.take (n - 4)) i).y0 ≤ (tileZ (bs.take (n - 4)) i).y1 ∧ (tileZ (bs.take (n - 4)) i).y1 ≤ 1024 := by omega
   have hml : (tbZ (bs.take (n - 4)) i).length = offZ (bs.take (n - 4)) i + lenZ (bs.take (n - 4)) i - offZ (bs.take (n - 4)) i := by rw [tbz_len D hi (by rw [hlt]; omega)]; omega
   refine cw_skip ?_
   refine fn_next ?_
   refine cw_seq ?_
   refine cw_block ?_
   refine cw_seq ?_
   refine cw_reg ?_
   refine ry (y_mov rfl rfl) rfl rfl ?_
   refine ry (y_iar (i := i) (H29.rd (i := 2) rfl) rfl rfl rfl kffile2_12 (rfl) (by omega) (rfl) (htp 0 _ rfl)) rfl rfl ?_
   refine ry (y_ldra (cs := [_, _, _, _]) (H29.rd (i := 2) rfl) rfl rfl kffile2_13 rfl (by decide) (htp)) rfl rfl ?_
   refine reg_op (op_alloc H29 rfl kffile2_14) rfl rfl ?_
   rintro _ w33 ⟨b32, rfl, H34⟩
   refine ry (y_asg rfl rfl) rfl rfl ?_
   refine reg_op (op_st (i := 0) (vs := [.int _ _, .int _ _, .int _ _, .int _ _]) H34 rfl rfl rfl rfl rfl kffile2_15 rfl rfl rfl) rfl rfl ?_
   rintro _ w35 H36
   refine reg_nil ?_
   refine fn_next ?_
   refine cw_seq ?_
   refine cw_reg ?_
   refine ry (y_mov rfl rfl) rfl rfl ?_
   refine ry (y_mov rfl rfl) rfl rfl ?_
   refine ry (y_iar (i := i) (H36.rd (i := 4) rfl) rfl rfl rfl kffile2_3 (rfl) (by omega) (rfl) (hen2 0 _ rfl)) rfl rfl ?_
   refine ry (y_ldra (cs := [_, _]) (H36.rd (i := 4) rfl) rfl rfl kffile2_4 rfl (by decide) (hen2)) rfl rfl ?_
   refine reg_op (op_alloc H36 rfl kffile2_5) rfl rfl ?_
   rintro _ w38 ⟨b37, rfl, H39⟩
   refine reg_op (op_st (i := 0) (vs := [.int _ _, .int _ _]) H39 rfl rfl rfl rfl rfl kffile2_6 rfl rfl rfl) rfl rfl ?_
   rintro _ w40 H41
   refine reg_nil ?_
   refine fn_next ?_
   refine cw_seq ?_
   refine cw_reg ?_
   refine ry (y_ldb (i := 1) (cs := [_, _, _, _]) H41 rfl rfl kffile2_13 rfl rfl) rfl rfl ?_
   refine reg_op (op_call (fSize _ _ _ _ _ hsz) rfl kffile2_16 ⟨rfl, trivial⟩) rfl rfl ?_
   rintro _ w43 ⟨rfl, e42⟩
   have H44 := H41.ext e42
   refine ry (y_mov rfl rfl) rfl rfl ?_
   refine ry (y_ext rfl rfl rfl) rfl rfl ?_
   refine ry (y_ext rfl rfl rfl) rfl rfl ?_
   refine ry (y_asg rfl rfl) rfl rfl ?_
   refine ry (y_asg rfl rfl) rfl rfl ?_
   refine reg_nil ?_
   refine fn_next ?_
   refine cw_seq ?_
   refine cw_reg ?_
   refine ry (y_mov rfl rfl) rfl rfl ?_
   refine ry (y_fa rfl rfl kffile2_7 rfl) rfl rfl ?_
   refine ry (y_ld rfl rfl kffile2_8 (H44.cell (i := 0) rfl rfl)) rfl rfl ?_
   refine ry (y_fa rfl rfl kffile2_7 rfl) rfl rfl ?_
   refine ry (y_ld rfl rfl kffile2_8 (H44.cell (i := 0) rfl rfl)) rfl rfl ?_
   refine ry (y_fa rfl rfl kffile2_9 rfl) rfl rfl ?_
   refine ry (y_ld rfl rfl kffile2_8 (H44.cell (i := 0) rfl rfl)) rfl rfl ?_
   refine ry (y_add rfl rfl rfl (show _ = ((offZ (bs.take (n - 4)) i + lenZ (bs.take (n - 4)) i : Nat) : Int) from (wi (by omega)).trans (by omega))) rfl rfl ?_
   have hcp := (H44.len (i := 6) rfl).2.1
   refine ry (y_slh rfl rfl rfl rfl kffile2_17 (rfl) (rfl) (by omega) (by omega)) rfl rfl ?_
   refine ry (y_mov rfl rfl) rfl rfl ?_
   refine ry (y_mov rfl rfl) rfl rfl ?_
   refine reg_op (op_call (tileGetZ (bs.take (n - 4)) i _ _ _ (offZ (bs.take (n - 4)) i + lenZ (bs.take (n - 4)) i - offZ (bs.take (n - 4)) i) _ _ rfl rfl (rd_tb (H44.rd (i := 6) rfl) (by omega)) hml (by omega) hBt (by omega)) rfl kffile2_18 ⟨rfl, rfl, rfl, trivial⟩) rfl rfl ?_
   rintro _ w46 ⟨A48, c49, rfl, k45⟩
   have H47 := H44.call k45
   refine ry (y_mov rfl rfl) rfl rfl ?_
   refine ry (y_ext rfl rfl rfl) rfl rfl ?_
   refine ry (y_ext rfl rfl rfl) rfl rfl ?_
   refine ry (y_ext rfl rfl rfl) rfl rfl ?_
   refine ry (y_asg rfl rfl) rfl rfl ?_
   refine ry (y_asg rfl rfl) rfl rfl ?_
   refine ry (y_asg rfl rfl) rfl rfl ?_
   refine reg_nil ?_
   refine fn_next ?_
   refine cw_seq ?_
   refine cw_seq ?_
   refine cw_reg ?_
   refine ry (y_mov rfl rfl) rfl rfl ?_
   refine ry (y_neq rfl rfl rfl) rfl rfl ?_
   refine reg_nil ?_
   refine fn_next ?_
   refine cw_condd rfl (fun hcd => ?_) (fun hcd => ?_)
   ·skip
    refine cw_seq ?_
    refine cw_reg ?_
    refine ry (y_asg rfl rfl) rfl rfl ?_
    refine ry (y_asg rfl rfl) rfl rfl ?_
    refine ry (y_asg rfl rfl) rfl rfl ?_
    refine reg_nil ?_
    refine fn_next ?_
    refine cw_ret ?_
    refine fn_then_ret (fn_block_ret (fn_then_ret (fn_then_ret (fn_block_ret (fn_then_ret ?_)))))
    refine fn_retn (vs := [_, _, _]) rfl ⟨rfl, rfl, rfl, trivial⟩ rfl ?_
    exact .inr ⟨fun hf => hcd (fileP_all D hf hi), rfl, H47.base⟩
   ·skip
    have hcode := Classical.not_not.1 hcd
    have T := tg_ok D hBt hi hcode
    refine cw_skip ?_
    refine fn_next ?_
    refine cw_seq ?_
    refine cw_reg ?_
    refine ry (y_mov rfl rfl) rfl rfl ?_
    refine ry (y_ldb (i := 2) (cs := [_, _, _, _]) H47 rfl rfl kffile2_13 rfl rfl) rfl rfl ?_
    refine ry (y_mov rfl rfl) rfl rfl ?_
    refine reg_op (op_call (gPasteZ w _ g20 a h N (bs.take (n - 4)) D i T _ _ _ _ (fun X hX => hX.rd (i := 0) rfl) (H47.pick (m := [_, _, _, _, _, _, _, _]) [4, 0, 1, 2, 3, 5, 6, 7] rfl (by decide))) rfl kffile2_19 ⟨rfl, rfl, rfl, trivial⟩) rfl rfl ?_
    rintro _ w52 ⟨bl53, rfl, H51⟩
    refine reg_nil ?_
    refine fn_next ?_
    refine cw_reg ?_
    refine ry (y_mov rfl rfl) rfl rfl ?_
    refine ry (y_mov rfl rfl) rfl rfl ?_
    refine reg_op (op_lit (parts := [(0, _)]) (vs := [(0, _)]) (cs := [.int _ _]) H51 rfl Tryz.underlying27 kffile2_20 rfl ⟨rfl, trivial⟩ rfl rfl) rfl rfl ?_
    rintro _ w55 ⟨b54, rfl, H56⟩
    have H57 := H56.asrow (m := 1) (size := 1) rfl (by decide)
    refine reg_op (op_app (i := 5) H57 rfl rfl rfl rfl (H57.rd (i := 0) rfl) (rfl) (rfl) Tryz.underlying27 kffile2_21 rfl rfl (by unfold maxLen; omega) (by omega)) rfl rfl ?_
    rintro _ w60 ⟨A58, c59, rfl, H61⟩
    refine ry (y_asg rfl rfl) rfl rfl ?_
    refine reg_nil ?_
    refine fn_block ?_
    refine fn_next ?_
    refine cw_reg ?_
    refine ry (y_add rfl rfl rfl (wi (by omega))) rfl rfl ?_
    refine ry (y_mov rfl rfl) rfl rfl ?_
    refine reg_nil ?_
    rw [vi_snoc, ← kZ_succ] at H61
    refine fn_roundJ ⟨i + 1, _, _, _, rfl, (H61.pick (m := [_, _, _, _, _]) [5, 1, 6, 7, 8] rfl (by decide)), by omega, fun j hj => by rcases Nat.lt_succ_iff_lt_or_eq.1 hj with q | rfl; exact hall j q; exact hcode, rfl⟩ ⟨rfl, rfl, trivial⟩ (by omega) (by repeat (first | exact kp_refl | refine kp_app rfl rfl ?_ | refine kp_cons rfl ?_)) rfl
  ·skip
   refine cw_exit ?_
   refine fn_then_exit (fn_then_exit (fn_block_exit ?_))
   refine fn_next ?_
   refine cw_seq ?_
   refine cw_reg ?_
   refine ry (y_mov rfl rfl) rfl rfl ?_
   refine ry (y_mov rfl rfl) rfl rfl ?_
   refine ry (y_asg rfl rfl) rfl rfl ?_
   refine ry (y_asg rfl rfl) rfl rfl ?_
   refine ry (y_asg rfl rfl) rfl rfl ?_
   refine reg_nil ?_
   refine fn_next ?_
   refine cw_ret ?_
   refine fn_retn (vs := [_, _, _]) rfl ⟨rfl, rfl, rfl, trivial⟩ rfl ?_
   obtain rfl : i = N := by omega
   exact .inl ⟨fileP_of D (by rw [hlt]; exact hend) hall, _, _, _, _, rfl, (H29.pick (m := [_, _]) [1, 0] rfl (by decide))⟩

end Go.Proofs.YtbnjbgcadkdljaaGreatDoor
