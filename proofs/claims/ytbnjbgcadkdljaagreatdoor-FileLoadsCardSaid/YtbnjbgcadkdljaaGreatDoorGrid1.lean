/- Layer 9: New, Fill, Set, Values, Tiles, Copy. -/
import Derived.Test.YtbnjbgcadkdljaaGreatDoorMH
import Derived.Test.YtbnjbgcadkdljaaGreatDoorME
import Derived.Test.YtbnjbgcadkdljaaGreatDoorMG
set_option linter.unusedVariables false
set_option linter.unusedSimpArgs false
namespace Go.Proofs.YtbnjbgcadkdljaaGreatDoor
open Go Go.RowKit
theorem kfgrid1_1 : (Tryz.prog.info? 54).bind (fun i => i.zero.map Value.cells) = some (List.toArray [(.int .i64 0), (.int .i64 0), (.int .i64 0), (.int .i64 0)]) := by kernel_rfl
theorem kfgrid1_2 : szB Tryz.prog 54 4 = true := by kernel_rfl
theorem kfgrid1_3 : callB Tryz.prog 35 = true := by kernel_rfl
theorem kfgrid1_4 : (Tryz.prog.info? 77).bind (fun i => i.zero.map Value.cells) = some (List.toArray [(.int .i64 0), (.int .i64 0), (.int .i64 0), (.slice none 0 0)]) := by kernel_rfl
theorem kfgrid1_5 : aggB Tryz.prog 54 4 = true := by kernel_rfl
theorem kfgrid1_6 : callB Tryz.prog 36 = true := by kernel_rfl
theorem kfgrid1_7 : elB Tryz.prog 47 4 = true := by kernel_rfl
theorem kfgrid1_8 : fldB Tryz.prog 54 2 2 = true := by kernel_rfl
theorem kfgrid1_9 : oneB Tryz.prog 2 = true := by kernel_rfl
theorem kfgrid1_10 : fldB Tryz.prog 54 0 0 = true := by kernel_rfl
theorem kfgrid1_11 : fldB Tryz.prog 54 3 3 = true := by kernel_rfl
theorem kfgrid1_12 : fldB Tryz.prog 54 1 1 = true := by kernel_rfl
theorem kfgrid1_13 : callB Tryz.prog 37 = true := by kernel_rfl
theorem kfgrid1_14 : fldB Tryz.prog 77 3 3 = true := by kernel_rfl
theorem kfgrid1_15 : oneB Tryz.prog 75 = true := by kernel_rfl
theorem kfgrid1_16 : (Tryz.prog.info? 79).map (fun i => (i.size, i.zero.map Value.cells)) = some (1, some (List.toArray [(.pointer none)])) := by kernel_rfl
theorem kfgrid1_17 : (Tryz.prog.info? 79).map (fun i => (i.zero.map (·.cells.toList), i.size, i.bytes)) = some (some [(.pointer none)], 1, 8) := by kernel_rfl
theorem kfgrid1_18 : szB Tryz.prog 75 1 = true := by kernel_rfl
theorem kfgrid1_19 : callB Tryz.prog 67 = true := by kernel_rfl
theorem kfgrid1_20 : callB Tryz.prog 70 = true := by kernel_rfl
theorem kfgrid1_21 : (Tryz.prog.info? 105).bind (fun i => i.zero.map Value.cells) = some (List.toArray [(.int .i64 0), (.int .i64 0)]) := by kernel_rfl
theorem kfgrid1_22 : szB Tryz.prog 105 2 = true := by kernel_rfl
theorem kfgrid1_23 : callB Tryz.prog 68 = true := by kernel_rfl
theorem kfgrid1_24 : fldB Tryz.prog 105 0 0 = true := by kernel_rfl
theorem kfgrid1_25 : fldB Tryz.prog 105 1 1 = true := by kernel_rfl
theorem kfgrid1_26 : callB Tryz.prog 108 = true := by kernel_rfl
theorem ptrs_snoc {xs : List Sb} {s : Sb} : ptrs (xs ++ [s]) = ptrs xs ++ [.pointer (some ⟨s.b, 0, none⟩)] := by simp [ptrs]
theorem ptrs_set {xs : List Sb} {t : Nat} {L : Ld} (h : t < xs.length) : ptrs (xs.set t { gs xs t with L := L }) = ptrs xs := by
  unfold ptrs
  rw [List.map_set]
  apply List.ext_getElem?
  intro i
  rw [List.getElem?_set]
  split
  · rename_i e
    subst e
    rw [List.length_map, if_pos h, List.getElem?_map, gs_get h]; rfl
  · rfl
theorem pall_len {a h : Nat} (s : SzG a h) : (piecesL ⟨0, 0, ((a - 1 : Nat) : Int), ((h - 1 : Nat) : Int)⟩).length = across h * across a := by
  obtain ⟨s1, s2, s3, s4⟩ := s
  exact (piecesN_len (p0 := 0) (q0 := 0) (Nat.zero_le _) (by omega) (Nat.zero_le _) (by omega)).trans (pcs_all s1 s3)
/-- the cells of the t-th piece -/
theorem pc_rc {p0 q0 p1 q1 t : Nat} (h1 : p0 ≤ p1) (h2 : p1 < 1024) (h3 : q0 ≤ q1) (h4 : q1 < 1024) (ht : t < pcs p0 q0 p1 q1) (c : Pc) (hc : c = pcN p0 q0 p1 q1 t) : ∀ j v, ([.int .i64 (c.u0 : Int), .int .i64 (c.v0 : Int), .int .i64 (c.u1 : Int), .int .i64 (c.v1 : Int)] : List Value)[j]? = some v → (rcells (piecesL ⟨p0, q0, p1, q1⟩))[t * 4 + j]? = some v := by
  subst hc
  have hl : t < (piecesL ⟨p0, q0, p1, q1⟩).length := by rw [piecesN_len h1 h2 h3 h4]; exact ht
  have e : rn (piecesL ⟨p0, q0, p1, q1⟩) t = (pcN p0 q0 p1 q1 t).rt := by
    unfold rn
    rw [List.getD_eq_getElem?_getD, piecesN_get h1 h2 h3 h4 ht]; rfl
  have := rc_part hl
  rw [e] at this
  exact this
theorem within_sz {a h : Nat} (s : SzG a h) : withinC 0 0 0 0 a h = 0 := by
  obtain ⟨s1, s2, s3, s4⟩ := s
  unfold withinC; simp only [insideB_not]
  rw [if_neg (by unfold wrap64; omega), if_neg (by omega), if_neg (by omega)]
theorem fillV_non {V : List Int} {a h : Nat} {x0 y0 x1 y1 v : Int} (hc : ¬ fillC a h x0 y0 x1 y1 v = 0) : fillV V a h x0 y0 x1 y1 v = V := by unfold fillV; rw [if_neg hc]
theorem gV_same {xs : List Sb} {a h t : Nat} {L : Ld} (ht : t < xs.length) (hL : L.lst ((gs xs t).w * (gs xs t).h) = (gs xs t).lst) : gV (xs.set t { gs xs t with L := L }) a h = gV xs a h := by
  unfold gV
  refine List.map_congr_left fun i _ => ?_
  unfold gval
  by_cases e : t = tno a (i % a) (i / a)
  · subst e; rw [gs_set_eq ht]; unfold Sb.lst at *; simp only; rw [hL]
  · rw [gs_set_ne e]
theorem FI.ptrs {a h : Nat} {xs ys : List Sb} {p0 q0 p1 q1 : Nat} {v : Int} {t : Nat} (F : FI a h xs ys p0 q0 p1 q1 v t) : ptrs ys = ptrs xs := by
  obtain ⟨_, hl, hb, _⟩ := F
  apply List.ext_getElem?
  intro i
  by_cases hi : i < xs.length
  · rw [ptrs_get hi, ptrs_get (by omega), hb i]
  · rw [List.getElem?_eq_none (by rw [ptrs_len]; omega), List.getElem?_eq_none (by rw [ptrs_len]; omega)]
theorem HS.putld {w0 w : World} {l : List Ob} {b a h : Nat} {v : Int} (H : HS w0 w (.blk b [.int .i64 (a : Int), .int .i64 (h : Int), (Ld.flat v).val (a * h)] 121 :: l)) : HS w0 w (Sb.obs ⟨b, a, h, .flat v⟩ ++ l) := by
  have h1 := H.nilrow 21 1
  exact h1.perm (List.Perm.swap _ _ _)

set_option maxRecDepth 100000 in
theorem gNew_ok (a h : Nat) (v : Int) (w : World) (s : SzG a h) (hv : B32 v) :
    Ret Tryz.prog 10 [.int .i64 (a : Int), .int .i64 (h : Int), .int .i64 v] w (fun z w' => ∃ g bl, z = .tuple #[.pointer (some ⟨g, 0, none⟩), .int .i64 0] ∧ HS w w' [gOb g a h (List.replicate (a * h) v) bl]) := by
  obtain ⟨s1, s2, s3, s4⟩ := id s
  have hpl := pall_len s
  have hml : across h * across a ≤ 64 * 64 := Nat.mul_le_mul (by unfold across; omega) (by unfold across; omega)
  refine ret_enter Tryz.func10 rfl rfl rfl ?_
  have H0 := HS.start w
  refine cw_seq ?_
  refine cw_reg ?_
  refine ry (y_asg rfl rfl) rfl rfl ?_
  refine ry (y_asg rfl rfl) rfl rfl ?_
  refine reg_nil ?_
  refine fn_next ?_
  refine cw_seq ?_
  refine cw_reg ?_
  refine ry (y_mov rfl rfl) rfl rfl ?_
  refine ry (y_sub rfl rfl rfl (show _ = ((a - 1 : Nat) : Int) from (wi (by omega)).trans (by omega))) rfl rfl ?_
  refine ry (y_mov rfl rfl) rfl rfl ?_
  refine ry (y_sub rfl rfl rfl (show _ = ((h - 1 : Nat) : Int) from (wi (by omega)).trans (by omega))) rfl rfl ?_
  refine ry (y_build (places := [(0, 1), (1, 1), (2, 1), (3, 1)]) (parts := [(2, _), (3, _)]) (vs := [(2, _), (3, _)]) (cs := [.int _ _, .int _ _, .int _ _, .int _ _]) rfl Tryz.underlying54 (by kernel_rfl) kfgrid1_1 rfl ⟨rfl, rfl, trivial⟩ rfl) rfl rfl ?_
  refine reg_op (op_alloc H0 rfl kfgrid1_1) rfl rfl ?_
  rintro _ w2 ⟨b1, rfl, H3⟩
  refine reg_op (op_st (i := 0) (vs := [.int _ _, .int _ _, .int _ _, .int _ _]) H3 rfl rfl rfl rfl rfl kfgrid1_2 rfl rfl rfl) rfl rfl ?_
  rintro _ w4 H5
  refine reg_nil ?_
  refine fn_next ?_
  refine cw_seq ?_
  refine cw_seq ?_
  refine cw_reg ?_
  refine ry (y_build (places := [(0, 1), (1, 1), (2, 1), (3, 1)]) (parts := []) (vs := []) (cs := [.int _ _, .int _ _, .int _ _, .int _ _]) rfl Tryz.underlying54 (by kernel_rfl) kfgrid1_1 rfl trivial rfl) rfl rfl ?_
  refine ry (y_mov rfl rfl) rfl rfl ?_
  refine ry (y_mov rfl rfl) rfl rfl ?_
  refine reg_op (op_call (ret_elder (within_any 0 0 0 0 a h _)) rfl kfgrid1_3 ⟨rfl, rfl, rfl, trivial⟩) rfl rfl ?_
  rintro _ w7 ⟨rfl, e6⟩
  have H8 := H5.ext e6
  refine ry (y_asg rfl rfl) rfl rfl ?_
  refine reg_nil ?_
  refine fn_next ?_
  refine cw_seq ?_
  refine cw_reg ?_
  refine ry (y_mov rfl rfl) rfl rfl ?_
  refine ry (y_neq rfl rfl rfl) rfl rfl ?_
  refine reg_nil ?_
  refine fn_next ?_
  refine cw_condd rfl (fun h9 => ?_) (fun h9 => ?_)
  · exact absurd (within_sz s) h9
  · skip
    refine cw_skip ?_
    refine fn_next ?_
    refine cw_seq ?_
    refine cw_reg ?_
    refine ry (y_mov rfl rfl) rfl rfl ?_
    refine ry (y_mov rfl rfl) rfl rfl ?_
    refine ry (y_mov rfl rfl) rfl rfl ?_
    refine ry (y_add rfl rfl rfl (wi (by omega))) rfl rfl ?_
    refine ry (y_sub rfl rfl rfl (wi (by omega))) rfl rfl ?_
    refine ry (y_quo rfl rfl rfl (by decide) (show _ = ((across a : Nat) : Int) from tdq (by omega) ((wi (by omega)).trans (by unfold across; omega)))) rfl rfl ?_
    refine ry (y_build (places := [(0, 1), (1, 1), (2, 1), (3, 1)]) (parts := [(0, _), (1, _), (2, _)]) (vs := [(0, _), (1, _), (2, _)]) (cs := [.int _ _, .int _ _, .int _ _, .slice _ _ _]) rfl Tryz.underlying77 (by kernel_rfl) kfgrid1_4 rfl ⟨rfl, rfl, rfl, trivial⟩ rfl) rfl rfl ?_
    refine reg_op (op_box (cs := [.int _ _, .int _ _, .int _ _, .slice _ _ _]) H8 rfl rfl rfl) rfl rfl ?_
    rintro _ w11 ⟨b10, rfl, H12⟩
    refine ry (y_asg rfl rfl) rfl rfl ?_
    refine reg_nil ?_
    refine fn_next ?_
    refine cw_seq ?_
    refine cw_seq ?_
    refine cw_reg ?_
    refine ry (y_ldb (i := 1) (cs := [_, _, _, _]) H12 rfl rfl kfgrid1_5 rfl rfl) rfl rfl ?_
    refine reg_op (op_call (pieces_ret 0 0 ((a - 1 : Nat) : Int) ((h - 1 : Nat) : Int) _) rfl kfgrid1_6 ⟨rfl, trivial⟩) rfl rfl ?_
    rintro _ w14 ⟨A16, c17, rfl, k13⟩
    have H15 := H12.call k13
    refine ry (y_len rfl Tryz.underlying47 rfl) rfl rfl ?_
    refine ry (y_mov rfl rfl) rfl rfl ?_
    refine reg_nil ?_
    refine fn_next ?_
    refine cw_block ?_
    have Hn := H15.nilrow 79 1
    have Hm := Hn.nilA (f := Sb.obs)
    refine cw_loopJ [6, 7, 12, 13, 14, 37, 38, 39, 40, 41, 42, 43, 44, 45, 46, 47, 48, 49, 50, 51, 52, 53, 54, 55, 56, 57, 58, 59, 60, 61, 62, 63, 64, 65, 66, 67, 68, 69, 70, 71] (fun M wl ml => ∃ (t : Nat) (A : Option Addr) (cap : Nat) (xs : List Sb), M = [(37, .int .i64 (t : Int))] ∧ HS w wl [Ob.row A t cap (ptrs xs) 79 1, Ob.blk b10 [.int .i64 (a : Int), .int .i64 (h : Int), .int .i64 (across a : Int), .slice A t cap] 77, Ob.row A16 (piecesL ⟨0, 0, ((a - 1 : Nat) : Int), ((h - 1 : Nat) : Int)⟩).length c17 (rcells (piecesL ⟨0, 0, ((a - 1 : Nat) : Int), ((h - 1 : Nat) : Int)⟩)) 54 4, obA Sb.obs xs] ∧ (t ≤ across h * across a) ∧ (NI a h v xs t) ∧ ml = across h * across a - t) ⟨0, _, _, [], rfl, (Hm.pick (m := [_, _, _, _]) [1, 3, 2, 0] rfl (by decide)), Nat.zero_le _, NI.nil, rfl⟩ ⟨rfl, trivial⟩ ?_
    rintro M w18 m20 ⟨t, A, cap, xs, rfl, H19, hp0, hp1, rfl⟩
    refine cw_seq ?_
    refine cw_reg ?_
    refine ry (y_lss rfl rfl rfl) rfl rfl ?_
    refine reg_nil ?_
    refine fn_next ?_
    refine cw_seq ?_
    refine cw_condd rfl (fun h21 => ?_) (fun h21 => ?_)
    · skip
      have htl : t < across h * across a := by omega
      have hpt : t < pcs 0 0 (a - 1) (h - 1) := by rw [pcs_all s1 s3]; exact htl
      obtain ⟨c1, c2, c3, c4, c5, c6⟩ := pcN_all s1 s3 htl
      obtain ⟨k1, k2, k3, k4, k5, k6, _, _, _, _⟩ := pcN_tile (Nat.zero_le _) (Nat.zero_le _) hpt
      obtain ⟨c, hc⟩ : ∃ c, c = pcN 0 0 (a - 1) (h - 1) t := ⟨_, rfl⟩
      rw [← hc] at c1 c2 k1 k2 k3 k4 k5 k6
      refine cw_skip ?_
      refine fn_next ?_
      refine cw_seq ?_
      refine cw_block ?_
      refine cw_seq ?_
      refine cw_reg ?_
      refine ry (y_iar (i := t) (H19.rd (i := 2) rfl) rfl rfl rfl kfgrid1_7 (rfl) (by omega) (rfl) (pc_rc (p0 := 0) (q0 := 0) (Nat.zero_le _) (by omega) (Nat.zero_le _) (by omega) hpt c hc 0 _ rfl)) rfl rfl ?_
      refine ry (y_ldra (cs := [_, _, _, _]) (H19.rd (i := 2) rfl) rfl rfl kfgrid1_5 rfl (by decide) (fun j v hv => pc_rc (p0 := 0) (q0 := 0) (Nat.zero_le _) (by omega) (Nat.zero_le _) (by omega) hpt c hc j v hv)) rfl rfl ?_
      refine reg_op (op_alloc H19 rfl kfgrid1_1) rfl rfl ?_
      rintro _ w23 ⟨b22, rfl, H24⟩
      refine reg_op (op_st (i := 0) (vs := [.int _ _, .int _ _, .int _ _, .int _ _]) H24 rfl rfl rfl rfl rfl kfgrid1_2 rfl rfl rfl) rfl rfl ?_
      rintro _ w25 H26
      refine reg_nil ?_
      refine fn_next ?_
      refine cw_seq ?_
      refine cw_reg ?_
      refine ry (y_fa rfl rfl kfgrid1_8 rfl) rfl rfl ?_
      refine ry (y_ld rfl rfl kfgrid1_9 (H26.cell (i := 0) rfl rfl)) rfl rfl ?_
      refine ry (y_fa rfl rfl kfgrid1_10 rfl) rfl rfl ?_
      refine ry (y_ld rfl rfl kfgrid1_9 (H26.cell (i := 0) rfl rfl)) rfl rfl ?_
      refine ry (y_sub rfl rfl rfl (wi (by omega))) rfl rfl ?_
      refine ry (y_add rfl rfl rfl (show _ = ((tw a (t % across a) : Nat) : Int) from (wi (by omega)).trans (by omega))) rfl rfl ?_
      refine ry (y_fa rfl rfl kfgrid1_11 rfl) rfl rfl ?_
      refine ry (y_ld rfl rfl kfgrid1_9 (H26.cell (i := 0) rfl rfl)) rfl rfl ?_
      refine ry (y_fa rfl rfl kfgrid1_12 rfl) rfl rfl ?_
      refine ry (y_ld rfl rfl kfgrid1_9 (H26.cell (i := 0) rfl rfl)) rfl rfl ?_
      refine ry (y_sub rfl rfl rfl (wi (by omega))) rfl rfl ?_
      refine ry (y_add rfl rfl rfl (show _ = ((tw h (t / across a) : Nat) : Int) from (wi (by omega)).trans (by omega))) rfl rfl ?_
      refine ry (y_mov rfl rfl) rfl rfl ?_
      refine reg_op (op_call (slabNew_ok (tw a (t % across a)) (tw h (t / across a)) v _ ⟨by omega, by omega, by omega, by omega⟩ hv) rfl kfgrid1_13 ⟨rfl, rfl, rfl, trivial⟩) rfl rfl ?_
      rintro _ w28 ⟨b30, rfl, k27⟩
      have H29 := H26.call k27
      refine ry (y_mov rfl rfl) rfl rfl ?_
      refine ry (y_ext rfl rfl rfl) rfl rfl ?_
      refine ry (y_ext rfl rfl rfl) rfl rfl ?_
      refine ry (y_asg rfl rfl) rfl rfl ?_
      refine ry (y_asg rfl rfl) rfl rfl ?_
      refine reg_nil ?_
      refine fn_next ?_
      refine cw_seq ?_
      refine cw_seq ?_
      refine cw_reg ?_
      refine ry (y_mov rfl rfl) rfl rfl ?_
      refine ry (y_neq rfl rfl rfl) rfl rfl ?_
      refine reg_nil ?_
      refine fn_next ?_
      refine cw_condd rfl (fun h31 => ?_) (fun h31 => ?_)
      · exact absurd rfl h31
      · skip
        refine cw_skip ?_
        refine fn_next ?_
        refine cw_reg ?_
        refine ry (y_mov rfl rfl) rfl rfl ?_
        refine ry (y_mov rfl rfl) rfl rfl ?_
        refine ry (y_nilck rfl rfl) rfl rfl ?_
        refine ry (y_fa rfl rfl kfgrid1_14 rfl) rfl rfl ?_
        refine ry (y_ld rfl rfl kfgrid1_15 (H29.cell (i := 3) rfl rfl)) rfl rfl ?_
        refine ry (y_mov rfl rfl) rfl rfl ?_
        refine reg_op (op_lit (parts := [(0, _)]) (vs := [(0, _)]) (cs := [.pointer _]) H29 rfl Tryz.underlying75 kfgrid1_16 rfl ⟨rfl, trivial⟩ rfl rfl) rfl rfl ?_
        rintro _ w33 ⟨b32, rfl, H34⟩
        have H35 := H34.asrow (m := 1) (size := 1) rfl (by decide)
        refine reg_op (op_app (i := 3) H35 rfl rfl rfl rfl (H35.rd (i := 0) rfl) (rfl) (rfl) Tryz.underlying75 kfgrid1_17 rfl rfl (by unfold maxLen; omega) (by omega)) rfl rfl ?_
        rintro _ w38 ⟨A36, c37, rfl, H39⟩
        refine ry (y_nilck rfl rfl) rfl rfl ?_
        refine ry (y_fa rfl rfl kfgrid1_14 rfl) rfl rfl ?_
        refine reg_op (op_st (i := 4) (vs := [.slice _ _ _]) H39 rfl rfl rfl rfl rfl kfgrid1_18 rfl rfl rfl) rfl rfl ?_
        rintro _ w40 H41
        refine reg_nil ?_
        refine fn_block ?_
        refine fn_next ?_
        refine cw_reg ?_
        refine ry (y_add rfl rfl rfl (wi (by omega))) rfl rfl ?_
        refine ry (y_mov rfl rfl) rfl rfl ?_
        refine reg_nil ?_
        have Hs := HS.snocA (f := Sb.obs) (x := ⟨b30, tw a (t % across a), tw h (t / across a), .flat v⟩) (HS.putld ((H41.pick (m := [_, _, _, _, _]) [1, 6, 3, 4, 5] rfl (by decide))))
        rw [← ptrs_snoc (s := ⟨b30, tw a (t % across a), tw h (t / across a), .flat v⟩)] at Hs
        refine fn_roundJ ⟨t + 1, _, _, _, rfl, (Hs.pick (m := [_, _, _, _]) [1, 2, 3, 0] rfl (by decide)), by omega, hp1.snoc, rfl⟩ ⟨rfl, trivial⟩ (by omega) (by repeat (first | exact kp_refl | refine kp_app rfl rfl ?_ | refine kp_cons rfl ?_)) rfl
    · skip
      obtain rfl : t = across h * across a := by omega
      refine cw_exit ?_
      refine fn_then_exit (fn_then_exit (fn_block_exit ?_))
      refine fn_next ?_
      refine cw_seq ?_
      refine cw_reg ?_
      refine ry (y_mov rfl rfl) rfl rfl ?_
      refine ry (y_asg rfl rfl) rfl rfl ?_
      refine ry (y_asg rfl rfl) rfl rfl ?_
      refine reg_nil ?_
      refine fn_next ?_
      refine cw_ret ?_
      refine fn_retn (vs := [_, _]) rfl ⟨rfl, rfl, trivial⟩ rfl ?_
      have G := hp1.gi s1 s2 s3 s4 hv
      rw [← hp1.len] at H19
      obtain ⟨bl, Hg⟩ := HS.gclose G (hp1.gV G) (H19.pick (m := [_, _, _]) [1, 0, 3] rfl (by decide))
      exact ⟨_, bl, rfl, Hg⟩

theorem slabFillA (w0 : World) (l : List Ob) (a h : Nat) (ys : List Sb) (t b : Nat) (x0 y0 x1 y1 v : Int) (w : World) (G : GI a h ys) (ht : t < ys.length) (hb : (gs ys t).b = b) (H0 : HS w0 w (obA Sb.obs ys :: l)) :
    Ret Tryz.prog 108 [.pointer (some ⟨b, 0, none⟩), .agg #[.int .i64 x0, .int .i64 y0, .int .i64 x1, .int .i64 y1], .int .i64 v] w (fun z w' => ∃ L : Ld, z = .int .i64 (fillC (gs ys t).w (gs ys t).h x0 y0 x1 y1 v) ∧ HS w0 w' (obA Sb.obs (ys.set t { gs ys t with L := L }) :: l) ∧ L.ok ((gs ys t).w * (gs ys t).h) ∧ L.lst ((gs ys t).w * (gs ys t).h) = fillV (gs ys t).lst (gs ys t).w (gs ys t).h x0 y0 x1 y1 v) := by
  subst hb
  refine Calls.mono (slabFill_any w0 _ (gs ys t).b (gs ys t).w (gs ys t).h (gs ys t).L x0 y0 x1 y1 v w (G.size ht) (G.ok t ht) (HS.takeA H0 (gs_get ht))) ?_
  rintro e w' ⟨z, rfl, L, rfl, H, h1, h2⟩
  exact ⟨_, rfl, L, rfl, HS.putA (x := { gs ys t with L := L }) H ht, h1, h2⟩
theorem fill_in {a h : Nat} {ys : List Sb} {p0 q0 p1 q1 t : Nat} (G : GI a h ys) (h1 : p0 ≤ p1) (h2 : p1 < a) (h3 : q0 ≤ q1) (h4 : q1 < h) (ht : t < pcs p0 q0 p1 q1) (c : Pc) (hc : c = pcN p0 q0 p1 q1 t) :
    c.u0 < a ∧ c.u1 < a ∧ c.v0 < h ∧ c.v1 < h ∧ tno a c.u0 c.v0 < ys.length ∧ withinC ((c.u0 % 16 : Nat) : Int) ((c.v0 % 16 : Nat) : Int) ((c.u1 % 16 : Nat) : Int) ((c.v1 % 16 : Nat) : Int) (gs ys (tno a c.u0 c.v0)).w (gs ys (tno a c.u0 c.v0)).h = 0 := by
  obtain ⟨k1, k2, k3, k4, k5, k6, k7, k8, k9, k10⟩ := pcN_tile h1 h3 ht
  rw [← hc] at k1 k2 k3 k4 k5 k6 k7 k8 k9 k10
  obtain ⟨i1, i2, i3⟩ := G.tile (x := c.u0) (y := c.v0) (by omega) (by omega)
  obtain ⟨j1, j2, j3⟩ := G.tile (x := c.u1) (y := c.v1) (by omega) (by omega)
  have e : tno a c.u1 c.v1 = tno a c.u0 c.v0 := (tno_eq (by omega) (by omega)).2 ⟨by omega, by omega⟩
  rw [e] at j1 j2 j3
  obtain ⟨s1, s2, s3, s4⟩ := G.size i1
  refine ⟨by omega, by omega, by omega, by omega, i1, ?_⟩
  unfold withinC; simp only [insideB_not]
  rw [if_neg (by unfold wrap64; omega), if_neg (by omega), if_neg (by omega)]

set_option maxRecDepth 100000 in
theorem gridFill_w (w0 : World) (l : List Ob) (g a h : Nat) (A : Option Addr) (cap : Nat) (xs : List Sb) (x0 y0 x1 y1 v : Int) (w : World) (G : GI a h xs) (hw : ¬ withinC x0 y0 x1 y1 a h = 0) (H0 : HS w0 w (Ob.blk g [.int .i64 (a : Int), .int .i64 (h : Int), .int .i64 (across a : Int), .slice A xs.length cap] 77 :: Ob.row A xs.length cap (ptrs xs) 79 1 :: obA Sb.obs xs :: l)) :
    Ret Tryz.prog 100 [.pointer (some ⟨g, 0, none⟩), .agg #[.int .i64 x0, .int .i64 y0, .int .i64 x1, .int .i64 y1], .int .i64 v] w (fun z w' => ∃ ys : List Sb, z = .int .i64 (fillC a h x0 y0 x1 y1 v) ∧ HS w0 w' (Ob.blk g [.int .i64 (a : Int), .int .i64 (h : Int), .int .i64 (across a : Int), .slice A xs.length cap] 77 :: Ob.row A xs.length cap (ptrs xs) 79 1 :: obA Sb.obs ys :: l) ∧ GI a h ys ∧ gV ys a h = fillV (gV xs a h) a h x0 y0 x1 y1 v ∧ ys.length = xs.length ∧ ptrs ys = ptrs xs) := by
  have ha1 := G.a1; have ha2 := G.a2; have hh1 := G.h1; have hh2 := G.h2
  refine ret_enter Tryz.func100 rfl rfl rfl ?_
  refine cw_seq ?_
  refine cw_reg ?_
  refine reg_op (op_box (cs := [.int _ _, .int _ _, .int _ _, .int _ _]) H0 rfl rfl rfl) rfl rfl ?_
  rintro _ w2 ⟨b1, rfl, H3⟩
  refine ry (y_asg rfl rfl) rfl rfl ?_
  refine reg_nil ?_
  refine fn_next ?_
  refine cw_seq ?_
  refine cw_seq ?_
  refine cw_reg ?_
  refine ry (y_mov rfl rfl) rfl rfl ?_
  refine ry (y_ldb (i := 0) (cs := [_, _, _, _]) H3 rfl rfl kfgrid1_5 rfl rfl) rfl rfl ?_
  refine reg_op (op_call (gridCheck_any g a h A cap xs x0 y0 x1 y1 _ G (GR.of ((H3.pickT (p := [_, _, _, _]) (m := [_, _, _]) [1, 2, 3] rfl (by decide))))) rfl kfgrid1_19 ⟨rfl, rfl, trivial⟩) rfl rfl ?_
  rintro _ w5 ⟨rfl, e4⟩
  have H6 := H3.ext e4
  refine ry (y_asg rfl rfl) rfl rfl ?_
  refine reg_nil ?_
  refine fn_next ?_
  refine cw_seq ?_
  refine cw_reg ?_
  refine ry (y_mov rfl rfl) rfl rfl ?_
  refine ry (y_neq rfl rfl rfl) rfl rfl ?_
  refine reg_nil ?_
  refine fn_next ?_
  refine cw_condd rfl (fun h7 => ?_) (fun h7 => ?_)
  · skip
    refine cw_seq ?_
    refine cw_reg ?_
    refine ry (y_mov rfl rfl) rfl rfl ?_
    refine ry (y_asg rfl rfl) rfl rfl ?_
    refine reg_nil ?_
    refine fn_next ?_
    refine cw_ret ?_
    refine fn_then_ret ?_
    refine fn_ret1 rfl rfl ?_
    rw [fillC_w hw, fillV_non (by rw [fillC_w hw]; exact hw)]
    exact ⟨xs, rfl, (H6.pickT (p := [_, _, _, _]) (m := [_, _, _]) [1, 2, 3] rfl (by decide)), G, rfl, rfl, rfl⟩
  · exact absurd (Classical.not_not.1 h7) hw

set_option maxRecDepth 100000 in
theorem gridFill_ok (w0 : World) (l : List Ob) (g a h : Nat) (A : Option Addr) (cap : Nat) (xs : List Sb) (p0 q0 p1 q1 : Nat) (v : Int) (w : World) (G : GI a h xs) (h1 : p0 ≤ p1) (h2 : p1 < a) (h3 : q0 ≤ q1) (h4 : q1 < h) (hw : withinC p0 q0 p1 q1 a h = 0) (hv : B32 v) (H0 : HS w0 w (Ob.blk g [.int .i64 (a : Int), .int .i64 (h : Int), .int .i64 (across a : Int), .slice A xs.length cap] 77 :: Ob.row A xs.length cap (ptrs xs) 79 1 :: obA Sb.obs xs :: l)) :
    Ret Tryz.prog 100 [.pointer (some ⟨g, 0, none⟩), .agg #[.int .i64 (p0 : Int), .int .i64 (q0 : Int), .int .i64 (p1 : Int), .int .i64 (q1 : Int)], .int .i64 v] w (fun z w' => ∃ ys : List Sb, z = .int .i64 (fillC a h p0 q0 p1 q1 v) ∧ HS w0 w' (Ob.blk g [.int .i64 (a : Int), .int .i64 (h : Int), .int .i64 (across a : Int), .slice A xs.length cap] 77 :: Ob.row A xs.length cap (ptrs xs) 79 1 :: obA Sb.obs ys :: l) ∧ GI a h ys ∧ gV ys a h = fillV (gV xs a h) a h p0 q0 p1 q1 v ∧ ys.length = xs.length ∧ ptrs ys = ptrs xs) := by
  have ha1 := G.a1; have ha2 := G.a2; have hh1 := G.h1; have hh2 := G.h2
  have hpl : (piecesL ⟨(p0 : Int), q0, p1, q1⟩).length = pcs p0 q0 p1 q1 := piecesN_len h1 (by omega) h3 (by omega)
  have hpm : pcs p0 q0 p1 q1 ≤ 64 * 64 := Nat.mul_le_mul (by unfold tcol; omega) (by unfold tcol; omega)
  refine ret_enter Tryz.func100 rfl rfl rfl ?_
  refine cw_seq ?_
  refine cw_reg ?_
  refine reg_op (op_box (cs := [.int _ _, .int _ _, .int _ _, .int _ _]) H0 rfl rfl rfl) rfl rfl ?_
  rintro _ w2 ⟨b1, rfl, H3⟩
  refine ry (y_asg rfl rfl) rfl rfl ?_
  refine reg_nil ?_
  refine fn_next ?_
  refine cw_seq ?_
  refine cw_seq ?_
  refine cw_reg ?_
  refine ry (y_mov rfl rfl) rfl rfl ?_
  refine ry (y_ldb (i := 0) (cs := [_, _, _, _]) H3 rfl rfl kfgrid1_5 rfl rfl) rfl rfl ?_
  refine reg_op (op_call (gridCheck_any g a h A cap xs (p0 : Int) (q0 : Int) (p1 : Int) (q1 : Int) _ G (GR.of ((H3.pickT (p := [_, _, _, _]) (m := [_, _, _]) [1, 2, 3] rfl (by decide))))) rfl kfgrid1_19 ⟨rfl, rfl, trivial⟩) rfl rfl ?_
  rintro _ w5 ⟨rfl, e4⟩
  have H6 := H3.ext e4
  refine ry (y_asg rfl rfl) rfl rfl ?_
  refine reg_nil ?_
  refine fn_next ?_
  refine cw_seq ?_
  refine cw_reg ?_
  refine ry (y_mov rfl rfl) rfl rfl ?_
  refine ry (y_neq rfl rfl rfl) rfl rfl ?_
  refine reg_nil ?_
  refine fn_next ?_
  refine cw_condd rfl (fun h7 => ?_) (fun h7 => ?_)
  · exact absurd hw h7
  · skip
    refine cw_skip ?_
    refine fn_next ?_
    refine cw_seq ?_
    refine cw_seq ?_
    refine cw_reg ?_
    refine ry (y_ldb (i := 0) (cs := [_, _, _, _]) H6 rfl rfl kfgrid1_5 rfl rfl) rfl rfl ?_
    refine reg_op (op_call (pieces_ret (p0 : Int) (q0 : Int) (p1 : Int) (q1 : Int) _) rfl kfgrid1_6 ⟨rfl, trivial⟩) rfl rfl ?_
    rintro _ w9 ⟨A11, c12, rfl, k8⟩
    have H10 := H6.call k8
    refine ry (y_len rfl Tryz.underlying47 rfl) rfl rfl ?_
    refine ry (y_mov rfl rfl) rfl rfl ?_
    refine reg_nil ?_
    refine fn_next ?_
    refine cw_block ?_
    refine cw_loopJ [6, 9, 10, 11, 12, 22, 23, 24, 25, 26, 27, 28, 29, 30, 31, 32, 33, 34, 35, 36, 37, 38, 39, 40, 41, 42, 43, 44, 45, 46, 47, 48, 49, 50, 51, 52, 53, 54, 55, 56] (fun M wl ml => ∃ (t : Nat) (ys : List Sb), M = [(22, .int .i64 (t : Int))] ∧ HS w0 wl (Ob.blk g [.int .i64 (a : Int), .int .i64 (h : Int), .int .i64 (across a : Int), .slice A xs.length cap] 77 :: Ob.row A xs.length cap (ptrs xs) 79 1 :: obA Sb.obs ys :: Ob.row A11 (piecesL ⟨(p0 : Int), q0, p1, q1⟩).length c12 (rcells (piecesL ⟨(p0 : Int), q0, p1, q1⟩)) 54 4 :: l) ∧ (t ≤ pcs p0 q0 p1 q1) ∧ (FI a h xs ys p0 q0 p1 q1 v t) ∧ ml = pcs p0 q0 p1 q1 - t) ⟨0, xs, rfl, (H10.pickT (p := [_, _, _, _, _]) (m := [_, _, _, _]) [2, 3, 4, 0] rfl (by decide)), Nat.zero_le _, FI.init G, rfl⟩ ⟨rfl, trivial⟩ ?_
    rintro M w13 m15 ⟨t, ys, rfl, H14, hp0, hp1, rfl⟩
    refine cw_seq ?_
    refine cw_reg ?_
    refine ry (y_lss rfl rfl rfl) rfl rfl ?_
    refine reg_nil ?_
    refine fn_next ?_
    refine cw_seq ?_
    refine cw_condd rfl (fun h16 => ?_) (fun h16 => ?_)
    · skip
      have hpt : t < pcs p0 q0 p1 q1 := by omega
      have hc : ∃ c, c = pcN p0 q0 p1 q1 t := ⟨_, rfl⟩
      obtain ⟨c, hc⟩ := hc
      obtain ⟨g1, g2, g3, g4, htl, hwi⟩ := fill_in hp1.1 h1 h2 h3 h4 hpt c hc
      refine cw_skip ?_
      refine fn_next ?_
      refine cw_seq ?_
      refine cw_block ?_
      refine cw_seq ?_
      refine cw_reg ?_
      refine ry (y_iar (i := t) (H14.rd (i := 3) rfl) rfl rfl rfl kfgrid1_7 (rfl) (by omega) (rfl) (pc_rc h1 (by omega) h3 (by omega) hpt c hc 0 _ rfl)) rfl rfl ?_
      refine ry (y_ldra (cs := [_, _, _, _]) (H14.rd (i := 3) rfl) rfl rfl kfgrid1_5 rfl (by decide) (fun j v hv => pc_rc h1 (by omega) h3 (by omega) hpt c hc j v hv)) rfl rfl ?_
      refine reg_op (op_alloc H14 rfl kfgrid1_1) rfl rfl ?_
      rintro _ w18 ⟨b17, rfl, H19⟩
      refine reg_op (op_st (i := 0) (vs := [.int _ _, .int _ _, .int _ _, .int _ _]) H19 rfl rfl rfl rfl rfl kfgrid1_2 rfl rfl rfl) rfl rfl ?_
      rintro _ w20 H21
      refine reg_nil ?_
      refine fn_next ?_
      refine cw_seq ?_
      refine cw_drawT H21 [0, 1, 2, 3, 4, 5, 6, 7, 8, 9] (.alt (.step 10 (.step 11 (.step 12 (.step 13 (.leaf))))) (.step 11 (.step 10 (.step 12 (.step 13 (.leaf)))))) (fun X HX => HX) (by kernel_rfl) (by kernel_rfl) (by rfl) ?_
      simp only [pick, List.getElem?_cons_succ, List.getElem?_cons_zero]
      refine hk_y (fun Y HY => y_fa rfl rfl kfgrid1_10 rfl) rfl rfl ?_
      refine hk_y (fun Y HY => y_ld rfl rfl kfgrid1_9 (HY.cell (i := 0) rfl rfl)) rfl rfl ?_
      refine hk_y (fun Y HY => y_fa rfl rfl kfgrid1_12 rfl) rfl rfl ?_
      refine hk_y (fun Y HY => y_ld rfl rfl kfgrid1_9 (HY.cell (i := 0) rfl rfl)) rfl rfl ?_
      refine hk_q (qy_call (fun Y HY => gridInner_any c.u0 c.v0 _) rfl kfgrid1_20 ⟨rfl, rfl, trivial⟩) rfl rfl ?_
      refine hk_y (fun Y HY => y_fa rfl rfl kfgrid1_8 rfl) rfl rfl ?_
      refine hk_y (fun Y HY => y_ld rfl rfl kfgrid1_9 (HY.cell (i := 0) rfl rfl)) rfl rfl ?_
      refine hk_y (fun Y HY => y_fa rfl rfl kfgrid1_11 rfl) rfl rfl ?_
      refine hk_y (fun Y HY => y_ld rfl rfl kfgrid1_9 (HY.cell (i := 0) rfl rfl)) rfl rfl ?_
      refine hk_q (qy_call (fun Y HY => gridInner_any c.u1 c.v1 _) rfl kfgrid1_20 ⟨rfl, rfl, trivial⟩) rfl rfl ?_
      refine hkt_nil [10, 11] (fun M wl => ∃ (b1 b2 : Nat), M = [(10, .pointer (some ⟨b1, 0, none⟩)), (11, .pointer (some ⟨b2, 0, none⟩))] ∧ HS w0 wl (Ob.blk b1 [.int .i64 ((c.u0 % 16 : Nat) : Int), .int .i64 ((c.v0 % 16 : Nat) : Int)] 105 :: Ob.blk b2 [.int .i64 ((c.u1 % 16 : Nat) : Int), .int .i64 ((c.v1 % 16 : Nat) : Int)] 105 :: Ob.blk b17 [.int .i64 (c.u0 : Int), .int .i64 (c.v0 : Int), .int .i64 (c.u1 : Int), .int .i64 (c.v1 : Int)] 54 :: Ob.blk g [.int .i64 (a : Int), .int .i64 (h : Int), .int .i64 (across a : Int), .slice A xs.length cap] 77 :: Ob.row A xs.length cap (ptrs xs) 79 1 :: obA Sb.obs ys :: Ob.row A11 (piecesL ⟨(p0 : Int), q0, p1, q1⟩).length c12 (rcells (piecesL ⟨(p0 : Int), q0, p1, q1⟩)) 54 4 :: l)) (fun wX HX => ?_) ?_
      · skip
        refine tt_alt ?_ ?_
        · skip
          refine tt_op rfl (op_alloc HX rfl kfgrid1_21) rfl rfl ?_
          rintro _ w23 ⟨b22, rfl, H24⟩
          refine ⟨(H24.pickT (p := [_, _, _, _, _, _]) (m := [_, _, _, _, _]) [1, 2, 3, 4, 5] rfl (by decide)), fun w25 e27 => ?_⟩
          have H26 := H24.ext e27
          refine tt_op rfl (op_alloc H26 rfl kfgrid1_21) rfl rfl ?_
          rintro _ w29 ⟨b28, rfl, H30⟩
          refine ⟨(H30.pickT (p := [_, _, _, _, _, _, _]) (m := [_, _, _, _, _]) [2, 3, 4, 5, 6] rfl (by decide)), fun w31 e33 => ?_⟩
          have H32 := H30.ext e33
          refine tt_op rfl (op_st (i := 1) (vs := [.int _ _, .int _ _]) H32 rfl rfl rfl rfl rfl kfgrid1_22 rfl rfl rfl) rfl rfl ?_
          rintro _ w34 H35
          refine ⟨(H35.pickT (p := [_, _, _, _, _, _, _]) (m := [_, _, _, _, _]) [2, 3, 4, 5, 6] rfl (by decide)), fun w36 e38 => ?_⟩
          have H37 := H35.ext e38
          refine tt_op rfl (op_st (i := 0) (vs := [.int _ _, .int _ _]) H37 rfl rfl rfl rfl rfl kfgrid1_22 rfl rfl rfl) rfl rfl ?_
          rintro _ w39 H40
          refine ⟨(H40.pickT (p := [_, _, _, _, _, _, _]) (m := [_, _, _, _, _]) [2, 3, 4, 5, 6] rfl (by decide)), fun w41 e43 => ?_⟩
          have H42 := H40.ext e43
          exact tt_leaf ⟨b22, b28, rfl, (H42.pickT (p := [_, _, _, _, _, _, _]) (m := [_, _, _, _, _, _, _]) [1, 0, 2, 3, 4, 5, 6] rfl (by decide))⟩ ⟨rfl, rfl, trivial⟩ (by repeat (first | exact kp_refl | refine kp_app rfl rfl ?_ | refine kp_cons rfl ?_))
        refine tt_op rfl (op_alloc HX rfl kfgrid1_21) rfl rfl ?_
        rintro _ w45 ⟨b44, rfl, H46⟩
        refine ⟨(H46.pickT (p := [_, _, _, _, _, _]) (m := [_, _, _, _, _]) [1, 2, 3, 4, 5] rfl (by decide)), fun w47 e49 => ?_⟩
        have H48 := H46.ext e49
        refine tt_op rfl (op_alloc H48 rfl kfgrid1_21) rfl rfl ?_
        rintro _ w51 ⟨b50, rfl, H52⟩
        refine ⟨(H52.pickT (p := [_, _, _, _, _, _, _]) (m := [_, _, _, _, _]) [2, 3, 4, 5, 6] rfl (by decide)), fun w53 e55 => ?_⟩
        have H54 := H52.ext e55
        refine tt_op rfl (op_st (i := 0) (vs := [.int _ _, .int _ _]) H54 rfl rfl rfl rfl rfl kfgrid1_22 rfl rfl rfl) rfl rfl ?_
        rintro _ w56 H57
        refine ⟨(H57.pickT (p := [_, _, _, _, _, _, _]) (m := [_, _, _, _, _]) [2, 3, 4, 5, 6] rfl (by decide)), fun w58 e60 => ?_⟩
        have H59 := H57.ext e60
        refine tt_op rfl (op_st (i := 1) (vs := [.int _ _, .int _ _]) H59 rfl rfl rfl rfl rfl kfgrid1_22 rfl rfl rfl) rfl rfl ?_
        rintro _ w61 H62
        refine ⟨(H62.pickT (p := [_, _, _, _, _, _, _]) (m := [_, _, _, _, _]) [2, 3, 4, 5, 6] rfl (by decide)), fun w63 e65 => ?_⟩
        have H64 := H62.ext e65
        exact tt_leaf ⟨b50, b44, rfl, H64⟩ ⟨rfl, rfl, trivial⟩ (by repeat (first | exact kp_refl | refine kp_app rfl rfl ?_ | refine kp_cons rfl ?_))
      · skip
        rintro M w67 ⟨b1, b2, rfl, H66⟩
        refine fn_next ?_
        refine cw_seq ?_
        refine cw_draw H66 [0, 1, 2, 3, 4, 5, 6, 7, 8, 9, 10, 11, 12, 13, 14, 15] [16, 17] (fun X HX => (HX.pickT (p := [_, _, _, _, _, _, _]) (m := [_, _, _, _, _, _]) [0, 1, 2, 3, 4, 6] rfl (by decide))) (by kernel_rfl) (by kernel_rfl) (by rfl) ?_
        simp only [pick, List.getElem?_cons_succ, List.getElem?_cons_zero]
        refine hk_y (fun Y HY => y_mov rfl rfl) rfl rfl ?_
        refine hk_y (fun Y HY => y_fa rfl rfl kfgrid1_10 rfl) rfl rfl ?_
        refine hk_y (fun Y HY => y_ld rfl rfl kfgrid1_9 (HY.cell (i := 2) rfl rfl)) rfl rfl ?_
        refine hk_y (fun Y HY => y_fa rfl rfl kfgrid1_12 rfl) rfl rfl ?_
        refine hk_y (fun Y HY => y_ld rfl rfl kfgrid1_9 (HY.cell (i := 2) rfl rfl)) rfl rfl ?_
        refine hk_q (qy_call (fun Y HY => gridSlab_any g a h A cap xs c.u0 c.v0 _ G (HY.rdb (i := 3) rfl) (HY.rd (i := 4) rfl) g1 g3) rfl kfgrid1_23 ⟨rfl, rfl, rfl, trivial⟩) rfl rfl ?_
        refine hk_y (fun Y HY => y_fa rfl rfl kfgrid1_24 rfl) rfl rfl ?_
        refine hk_y (fun Y HY => y_ld rfl rfl kfgrid1_9 (HY.cell (i := 0) rfl rfl)) rfl rfl ?_
        refine hk_y (fun Y HY => y_fa rfl rfl kfgrid1_25 rfl) rfl rfl ?_
        refine hk_y (fun Y HY => y_ld rfl rfl kfgrid1_9 (HY.cell (i := 0) rfl rfl)) rfl rfl ?_
        refine hk_y (fun Y HY => y_fa rfl rfl kfgrid1_24 rfl) rfl rfl ?_
        refine hk_y (fun Y HY => y_ld rfl rfl kfgrid1_9 (HY.cell (i := 1) rfl rfl)) rfl rfl ?_
        refine hk_y (fun Y HY => y_fa rfl rfl kfgrid1_25 rfl) rfl rfl ?_
        refine hk_y (fun Y HY => y_ld rfl rfl kfgrid1_9 (HY.cell (i := 1) rfl rfl)) rfl rfl ?_
        refine hk_y (fun Y HY => y_build (places := [(0, 1), (1, 1), (2, 1), (3, 1)]) (parts := [(0, _), (1, _), (2, _), (3, _)]) (vs := [(0, _), (1, _), (2, _), (3, _)]) (cs := [.int _ _, .int _ _, .int _ _, .int _ _]) rfl Tryz.underlying54 (by kernel_rfl) kfgrid1_1 rfl ⟨rfl, rfl, rfl, rfl, trivial⟩ rfl) rfl rfl ?_
        refine hk_y (fun Y HY => y_mov rfl rfl) rfl rfl ?_
        refine hk_nil ?_
        intro w68 H69
        refine tv_op (op_call (slabFillA w0 _ a h ys (tno a c.u0 c.v0) _ _ _ _ _ v _ hp1.1 htl (hp1.2.2.1 _) (H69.pickT (p := [_, _, _, _, _, _, _]) (m := [_, _, _, _, _, _, _]) [5, 0, 1, 2, 3, 4, 6] rfl (by decide))) rfl kfgrid1_26 ⟨rfl, rfl, rfl, trivial⟩) rfl rfl ?_
        rintro _ w71 ⟨L72, rfl, H70, o73, e74⟩
        refine ⟨(H70.pickT (p := [_, _, _, _, _, _, _]) (m := [_, _, _, _, _, _]) [1, 2, 3, 4, 5, 6] rfl (by decide)), fun w75 e77 => ?_⟩
        have H76 := H70.ext e77
        refine tv_op (Yd.op (y_asg rfl rfl)) rfl rfl ?_
        rintro _ _ ⟨rfl, rfl⟩
        refine ⟨(H76.pickT (p := [_, _, _, _, _, _, _]) (m := [_, _, _, _, _, _]) [1, 2, 3, 4, 5, 6] rfl (by decide)), fun w78 e80 => ?_⟩
        have H79 := H76.ext e80
        refine tv_nil ?_
        refine fn_next ?_
        refine cw_seq ?_
        refine cw_reg ?_
        refine ry (y_mov rfl rfl) rfl rfl ?_
        refine ry (y_neq rfl rfl rfl) rfl rfl ?_
        refine reg_nil ?_
        refine fn_next ?_
        refine cw_condd rfl (fun h81 => ?_) (fun h81 => ?_)
        · exact absurd (fillC_ok hwi hv) h81
        · skip
          refine cw_skip ?_
          refine fn_block ?_
          refine fn_next ?_
          refine cw_reg ?_
          refine ry (y_add rfl rfl rfl (wi (by omega))) rfl rfl ?_
          refine ry (y_mov rfl rfl) rfl rfl ?_
          refine reg_nil ?_
          refine fn_roundJ ⟨t + 1, _, rfl, (H79.pickT (p := [_, _, _, _, _, _, _]) (m := [_, _, _, _]) [4, 5, 0, 6] rfl (by decide)), by omega, (hp1.step h1 h2 h3 h4 hpt c hc o73 (by rw [e74, fillV_ok hwi hv])), rfl⟩ ⟨rfl, trivial⟩ (by omega) (by repeat (first | exact kp_refl | refine kp_app rfl rfl ?_ | refine kp_cons rfl ?_)) rfl
    · skip
      obtain rfl : t = pcs p0 q0 p1 q1 := by omega
      refine cw_exit ?_
      refine fn_then_exit (fn_then_exit (fn_block_exit ?_))
      refine fn_next ?_
      refine cw_seq ?_
      refine cw_reg ?_
      refine ry (y_asg rfl rfl) rfl rfl ?_
      refine reg_nil ?_
      refine fn_next ?_
      refine cw_ret ?_
      refine fn_ret1 rfl rfl ?_
      rw [fillC_ok hw hv, fillV_ok hw hv]
      exact ⟨ys, rfl, (H14.pickT (p := [_, _, _, _]) (m := [_, _, _]) [0, 1, 2] rfl (by decide)), hp1.1, hp1.all, hp1.2.1, hp1.ptrs⟩

set_option maxRecDepth 100000 in
theorem gridFill_v (w0 : World) (l : List Ob) (g a h : Nat) (A : Option Addr) (cap : Nat) (xs : List Sb) (p0 q0 p1 q1 : Nat) (v : Int) (w : World) (G : GI a h xs) (h1 : p0 ≤ p1) (h2 : p1 < a) (h3 : q0 ≤ q1) (h4 : q1 < h) (hw : withinC p0 q0 p1 q1 a h = 0) (hv : ¬ B32 v) (H0 : HS w0 w (Ob.blk g [.int .i64 (a : Int), .int .i64 (h : Int), .int .i64 (across a : Int), .slice A xs.length cap] 77 :: Ob.row A xs.length cap (ptrs xs) 79 1 :: obA Sb.obs xs :: l)) :
    Ret Tryz.prog 100 [.pointer (some ⟨g, 0, none⟩), .agg #[.int .i64 (p0 : Int), .int .i64 (q0 : Int), .int .i64 (p1 : Int), .int .i64 (q1 : Int)], .int .i64 v] w (fun z w' => ∃ ys : List Sb, z = .int .i64 (fillC a h p0 q0 p1 q1 v) ∧ HS w0 w' (Ob.blk g [.int .i64 (a : Int), .int .i64 (h : Int), .int .i64 (across a : Int), .slice A xs.length cap] 77 :: Ob.row A xs.length cap (ptrs xs) 79 1 :: obA Sb.obs ys :: l) ∧ GI a h ys ∧ gV ys a h = fillV (gV xs a h) a h p0 q0 p1 q1 v ∧ ys.length = xs.length ∧ ptrs ys = ptrs xs) := by
  have ha1 := G.a1; have ha2 := G.a2; have hh1 := G.h1; have hh2 := G.h2
  have hpl : (piecesL ⟨(p0 : Int), q0, p1, q1⟩).length = pcs p0 q0 p1 q1 := piecesN_len h1 (by omega) h3 (by omega)
  have hpm : pcs p0 q0 p1 q1 ≤ 64 * 64 := Nat.mul_le_mul (by unfold tcol; omega) (by unfold tcol; omega)
  refine ret_enter Tryz.func100 rfl rfl rfl ?_
  refine cw_seq ?_
  refine cw_reg ?_
  refine reg_op (op_box (cs := [.int _ _, .int _ _, .int _ _, .int _ _]) H0 rfl rfl rfl) rfl rfl ?_
  rintro _ w2 ⟨b1, rfl, H3⟩
  refine ry (y_asg rfl rfl) rfl rfl ?_
  refine reg_nil ?_
  refine fn_next ?_
  refine cw_seq ?_
  refine cw_seq ?_
  refine cw_reg ?_
  refine ry (y_mov rfl rfl) rfl rfl ?_
  refine ry (y_ldb (i := 0) (cs := [_, _, _, _]) H3 rfl rfl kfgrid1_5 rfl rfl) rfl rfl ?_
  refine reg_op (op_call (gridCheck_any g a h A cap xs (p0 : Int) (q0 : Int) (p1 : Int) (q1 : Int) _ G (GR.of ((H3.pickT (p := [_, _, _, _]) (m := [_, _, _]) [1, 2, 3] rfl (by decide))))) rfl kfgrid1_19 ⟨rfl, rfl, trivial⟩) rfl rfl ?_
  rintro _ w5 ⟨rfl, e4⟩
  have H6 := H3.ext e4
  refine ry (y_asg rfl rfl) rfl rfl ?_
  refine reg_nil ?_
  refine fn_next ?_
  refine cw_seq ?_
  refine cw_reg ?_
  refine ry (y_mov rfl rfl) rfl rfl ?_
  refine ry (y_neq rfl rfl rfl) rfl rfl ?_
  refine reg_nil ?_
  refine fn_next ?_
  refine cw_condd rfl (fun h7 => ?_) (fun h7 => ?_)
  · exact absurd hw h7
  · skip
    refine cw_skip ?_
    refine fn_next ?_
    refine cw_seq ?_
    refine cw_seq ?_
    refine cw_reg ?_
    refine ry (y_ldb (i := 0) (cs := [_, _, _, _]) H6 rfl rfl kfgrid1_5 rfl rfl) rfl rfl ?_
    refine reg_op (op_call (pieces_ret (p0 : Int) (q0 : Int) (p1 : Int) (q1 : Int) _) rfl kfgrid1_6 ⟨rfl, trivial⟩) rfl rfl ?_
    rintro _ w9 ⟨A11, c12, rfl, k8⟩
    have H10 := H6.call k8
    refine ry (y_len rfl Tryz.underlying47 rfl) rfl rfl ?_
    refine ry (y_mov rfl rfl) rfl rfl ?_
    refine reg_nil ?_
    refine fn_next ?_
    refine cw_block ?_
    refine cw_loopJ [6, 9, 10, 11, 12, 22, 23, 24, 25, 26, 27, 28, 29, 30, 31, 32, 33, 34, 35, 36, 37, 38, 39, 40, 41, 42, 43, 44, 45, 46, 47, 48, 49, 50, 51, 52, 53, 54, 55, 56] (fun M wl ml => ∃ (t : Nat), M = [(22, .int .i64 (t : Int))] ∧ HS w0 wl (Ob.blk g [.int .i64 (a : Int), .int .i64 (h : Int), .int .i64 (across a : Int), .slice A xs.length cap] 77 :: Ob.row A xs.length cap (ptrs xs) 79 1 :: obA Sb.obs xs :: Ob.row A11 (piecesL ⟨(p0 : Int), q0, p1, q1⟩).length c12 (rcells (piecesL ⟨(p0 : Int), q0, p1, q1⟩)) 54 4 :: l) ∧ (t = 0) ∧ ml = 0) ⟨0, rfl, (H10.pickT (p := [_, _, _, _, _]) (m := [_, _, _, _]) [2, 3, 4, 0] rfl (by decide)), rfl, rfl⟩ ⟨rfl, trivial⟩ ?_
    rintro M w13 m15 ⟨t, rfl, H14, hp0, rfl⟩
    refine cw_seq ?_
    refine cw_reg ?_
    refine ry (y_lss rfl rfl rfl) rfl rfl ?_
    refine reg_nil ?_
    refine fn_next ?_
    refine cw_seq ?_
    refine cw_condd rfl (fun h16 => ?_) (fun h16 => ?_)
    · skip
      have hpt : t < pcs p0 q0 p1 q1 := by omega
      have hc : ∃ c, c = pcN p0 q0 p1 q1 t := ⟨_, rfl⟩
      obtain ⟨c, hc⟩ := hc
      obtain ⟨g1, g2, g3, g4, htl, hwi⟩ := fill_in G h1 h2 h3 h4 hpt c hc
      refine cw_skip ?_
      refine fn_next ?_
      refine cw_seq ?_
      refine cw_block ?_
      refine cw_seq ?_
      refine cw_reg ?_
      refine ry (y_iar (i := t) (H14.rd (i := 3) rfl) rfl rfl rfl kfgrid1_7 (rfl) (by omega) (rfl) (pc_rc h1 (by omega) h3 (by omega) hpt c hc 0 _ rfl)) rfl rfl ?_
      refine ry (y_ldra (cs := [_, _, _, _]) (H14.rd (i := 3) rfl) rfl rfl kfgrid1_5 rfl (by decide) (fun j v hv => pc_rc h1 (by omega) h3 (by omega) hpt c hc j v hv)) rfl rfl ?_
      refine reg_op (op_alloc H14 rfl kfgrid1_1) rfl rfl ?_
      rintro _ w18 ⟨b17, rfl, H19⟩
      refine reg_op (op_st (i := 0) (vs := [.int _ _, .int _ _, .int _ _, .int _ _]) H19 rfl rfl rfl rfl rfl kfgrid1_2 rfl rfl rfl) rfl rfl ?_
      rintro _ w20 H21
      refine reg_nil ?_
      refine fn_next ?_
      refine cw_seq ?_
      refine cw_drawT H21 [0, 1, 2, 3, 4, 5, 6, 7, 8, 9] (.alt (.step 10 (.step 11 (.step 12 (.step 13 (.leaf))))) (.step 11 (.step 10 (.step 12 (.step 13 (.leaf)))))) (fun X HX => HX) (by kernel_rfl) (by kernel_rfl) (by rfl) ?_
      simp only [pick, List.getElem?_cons_succ, List.getElem?_cons_zero]
      refine hk_y (fun Y HY => y_fa rfl rfl kfgrid1_10 rfl) rfl rfl ?_
      refine hk_y (fun Y HY => y_ld rfl rfl kfgrid1_9 (HY.cell (i := 0) rfl rfl)) rfl rfl ?_
      refine hk_y (fun Y HY => y_fa rfl rfl kfgrid1_12 rfl) rfl rfl ?_
      refine hk_y (fun Y HY => y_ld rfl rfl kfgrid1_9 (HY.cell (i := 0) rfl rfl)) rfl rfl ?_
      refine hk_q (qy_call (fun Y HY => gridInner_any c.u0 c.v0 _) rfl kfgrid1_20 ⟨rfl, rfl, trivial⟩) rfl rfl ?_
      refine hk_y (fun Y HY => y_fa rfl rfl kfgrid1_8 rfl) rfl rfl ?_
      refine hk_y (fun Y HY => y_ld rfl rfl kfgrid1_9 (HY.cell (i := 0) rfl rfl)) rfl rfl ?_
      refine hk_y (fun Y HY => y_fa rfl rfl kfgrid1_11 rfl) rfl rfl ?_
      refine hk_y (fun Y HY => y_ld rfl rfl kfgrid1_9 (HY.cell (i := 0) rfl rfl)) rfl rfl ?_
      refine hk_q (qy_call (fun Y HY => gridInner_any c.u1 c.v1 _) rfl kfgrid1_20 ⟨rfl, rfl, trivial⟩) rfl rfl ?_
      refine hkt_nil [10, 11] (fun M wl => ∃ (b1 b2 : Nat), M = [(10, .pointer (some ⟨b1, 0, none⟩)), (11, .pointer (some ⟨b2, 0, none⟩))] ∧ HS w0 wl (Ob.blk b1 [.int .i64 ((c.u0 % 16 : Nat) : Int), .int .i64 ((c.v0 % 16 : Nat) : Int)] 105 :: Ob.blk b2 [.int .i64 ((c.u1 % 16 : Nat) : Int), .int .i64 ((c.v1 % 16 : Nat) : Int)] 105 :: Ob.blk b17 [.int .i64 (c.u0 : Int), .int .i64 (c.v0 : Int), .int .i64 (c.u1 : Int), .int .i64 (c.v1 : Int)] 54 :: Ob.blk g [.int .i64 (a : Int), .int .i64 (h : Int), .int .i64 (across a : Int), .slice A xs.length cap] 77 :: Ob.row A xs.length cap (ptrs xs) 79 1 :: obA Sb.obs xs :: Ob.row A11 (piecesL ⟨(p0 : Int), q0, p1, q1⟩).length c12 (rcells (piecesL ⟨(p0 : Int), q0, p1, q1⟩)) 54 4 :: l)) (fun wX HX => ?_) ?_
      · skip
        refine tt_alt ?_ ?_
        · skip
          refine tt_op rfl (op_alloc HX rfl kfgrid1_21) rfl rfl ?_
          rintro _ w23 ⟨b22, rfl, H24⟩
          refine ⟨(H24.pickT (p := [_, _, _, _, _, _]) (m := [_, _, _, _, _]) [1, 2, 3, 4, 5] rfl (by decide)), fun w25 e27 => ?_⟩
          have H26 := H24.ext e27
          refine tt_op rfl (op_alloc H26 rfl kfgrid1_21) rfl rfl ?_
          rintro _ w29 ⟨b28, rfl, H30⟩
          refine ⟨(H30.pickT (p := [_, _, _, _, _, _, _]) (m := [_, _, _, _, _]) [2, 3, 4, 5, 6] rfl (by decide)), fun w31 e33 => ?_⟩
          have H32 := H30.ext e33
          refine tt_op rfl (op_st (i := 1) (vs := [.int _ _, .int _ _]) H32 rfl rfl rfl rfl rfl kfgrid1_22 rfl rfl rfl) rfl rfl ?_
          rintro _ w34 H35
          refine ⟨(H35.pickT (p := [_, _, _, _, _, _, _]) (m := [_, _, _, _, _]) [2, 3, 4, 5, 6] rfl (by decide)), fun w36 e38 => ?_⟩
          have H37 := H35.ext e38
          refine tt_op rfl (op_st (i := 0) (vs := [.int _ _, .int _ _]) H37 rfl rfl rfl rfl rfl kfgrid1_22 rfl rfl rfl) rfl rfl ?_
          rintro _ w39 H40
          refine ⟨(H40.pickT (p := [_, _, _, _, _, _, _]) (m := [_, _, _, _, _]) [2, 3, 4, 5, 6] rfl (by decide)), fun w41 e43 => ?_⟩
          have H42 := H40.ext e43
          exact tt_leaf ⟨b22, b28, rfl, (H42.pickT (p := [_, _, _, _, _, _, _]) (m := [_, _, _, _, _, _, _]) [1, 0, 2, 3, 4, 5, 6] rfl (by decide))⟩ ⟨rfl, rfl, trivial⟩ (by repeat (first | exact kp_refl | refine kp_app rfl rfl ?_ | refine kp_cons rfl ?_))
        refine tt_op rfl (op_alloc HX rfl kfgrid1_21) rfl rfl ?_
        rintro _ w45 ⟨b44, rfl, H46⟩
        refine ⟨(H46.pickT (p := [_, _, _, _, _, _]) (m := [_, _, _, _, _]) [1, 2, 3, 4, 5] rfl (by decide)), fun w47 e49 => ?_⟩
        have H48 := H46.ext e49
        refine tt_op rfl (op_alloc H48 rfl kfgrid1_21) rfl rfl ?_
        rintro _ w51 ⟨b50, rfl, H52⟩
        refine ⟨(H52.pickT (p := [_, _, _, _, _, _, _]) (m := [_, _, _, _, _]) [2, 3, 4, 5, 6] rfl (by decide)), fun w53 e55 => ?_⟩
        have H54 := H52.ext e55
        refine tt_op rfl (op_st (i := 0) (vs := [.int _ _, .int _ _]) H54 rfl rfl rfl rfl rfl kfgrid1_22 rfl rfl rfl) rfl rfl ?_
        rintro _ w56 H57
        refine ⟨(H57.pickT (p := [_, _, _, _, _, _, _]) (m := [_, _, _, _, _]) [2, 3, 4, 5, 6] rfl (by decide)), fun w58 e60 => ?_⟩
        have H59 := H57.ext e60
        refine tt_op rfl (op_st (i := 1) (vs := [.int _ _, .int _ _]) H59 rfl rfl rfl rfl rfl kfgrid1_22 rfl rfl rfl) rfl rfl ?_
        rintro _ w61 H62
        refine ⟨(H62.pickT (p := [_, _, _, _, _, _, _]) (m := [_, _, _, _, _]) [2, 3, 4, 5, 6] rfl (by decide)), fun w63 e65 => ?_⟩
        have H64 := H62.ext e65
        exact tt_leaf ⟨b50, b44, rfl, H64⟩ ⟨rfl, rfl, trivial⟩ (by repeat (first | exact kp_refl | refine kp_app rfl rfl ?_ | refine kp_cons rfl ?_))
      · skip
        rintro M w67 ⟨b1, b2, rfl, H66⟩
        refine fn_next ?_
        refine cw_seq ?_
        refine cw_draw H66 [0, 1, 2, 3, 4, 5, 6, 7, 8, 9, 10, 11, 12, 13, 14, 15] [16, 17] (fun X HX => (HX.pickT (p := [_, _, _, _, _, _, _]) (m := [_, _, _, _, _, _]) [0, 1, 2, 3, 4, 6] rfl (by decide))) (by kernel_rfl) (by kernel_rfl) (by rfl) ?_
        simp only [pick, List.getElem?_cons_succ, List.getElem?_cons_zero]
        refine hk_y (fun Y HY => y_mov rfl rfl) rfl rfl ?_
        refine hk_y (fun Y HY => y_fa rfl rfl kfgrid1_10 rfl) rfl rfl ?_
        refine hk_y (fun Y HY => y_ld rfl rfl kfgrid1_9 (HY.cell (i := 2) rfl rfl)) rfl rfl ?_
        refine hk_y (fun Y HY => y_fa rfl rfl kfgrid1_12 rfl) rfl rfl ?_
        refine hk_y (fun Y HY => y_ld rfl rfl kfgrid1_9 (HY.cell (i := 2) rfl rfl)) rfl rfl ?_
        refine hk_q (qy_call (fun Y HY => gridSlab_any g a h A cap xs c.u0 c.v0 _ G (HY.rdb (i := 3) rfl) (HY.rd (i := 4) rfl) g1 g3) rfl kfgrid1_23 ⟨rfl, rfl, rfl, trivial⟩) rfl rfl ?_
        refine hk_y (fun Y HY => y_fa rfl rfl kfgrid1_24 rfl) rfl rfl ?_
        refine hk_y (fun Y HY => y_ld rfl rfl kfgrid1_9 (HY.cell (i := 0) rfl rfl)) rfl rfl ?_
        refine hk_y (fun Y HY => y_fa rfl rfl kfgrid1_25 rfl) rfl rfl ?_
        refine hk_y (fun Y HY => y_ld rfl rfl kfgrid1_9 (HY.cell (i := 0) rfl rfl)) rfl rfl ?_
        refine hk_y (fun Y HY => y_fa rfl rfl kfgrid1_24 rfl) rfl rfl ?_
        refine hk_y (fun Y HY => y_ld rfl rfl kfgrid1_9 (HY.cell (i := 1) rfl rfl)) rfl rfl ?_
        refine hk_y (fun Y HY => y_fa rfl rfl kfgrid1_25 rfl) rfl rfl ?_
        refine hk_y (fun Y HY => y_ld rfl rfl kfgrid1_9 (HY.cell (i := 1) rfl rfl)) rfl rfl ?_
        refine hk_y (fun Y HY => y_build (places := [(0, 1), (1, 1), (2, 1), (3, 1)]) (parts := [(0, _), (1, _), (2, _), (3, _)]) (vs := [(0, _), (1, _), (2, _), (3, _)]) (cs := [.int _ _, .int _ _, .int _ _, .int _ _]) rfl Tryz.underlying54 (by kernel_rfl) kfgrid1_1 rfl ⟨rfl, rfl, rfl, rfl, trivial⟩ rfl) rfl rfl ?_
        refine hk_y (fun Y HY => y_mov rfl rfl) rfl rfl ?_
        refine hk_nil ?_
        intro w68 H69
        refine tv_op (op_call (slabFillA w0 _ a h xs (tno a c.u0 c.v0) _ _ _ _ _ v _ G htl rfl (H69.pickT (p := [_, _, _, _, _, _, _]) (m := [_, _, _, _, _, _, _]) [5, 0, 1, 2, 3, 4, 6] rfl (by decide))) rfl kfgrid1_26 ⟨rfl, rfl, rfl, trivial⟩) rfl rfl ?_
        rintro _ w71 ⟨L72, rfl, H70, o73, e74⟩
        refine ⟨(H70.pickT (p := [_, _, _, _, _, _, _]) (m := [_, _, _, _, _, _]) [1, 2, 3, 4, 5, 6] rfl (by decide)), fun w75 e77 => ?_⟩
        have H76 := H70.ext e77
        refine tv_op (Yd.op (y_asg rfl rfl)) rfl rfl ?_
        rintro _ _ ⟨rfl, rfl⟩
        refine ⟨(H76.pickT (p := [_, _, _, _, _, _, _]) (m := [_, _, _, _, _, _]) [1, 2, 3, 4, 5, 6] rfl (by decide)), fun w78 e80 => ?_⟩
        have H79 := H76.ext e80
        refine tv_nil ?_
        refine fn_next ?_
        refine cw_seq ?_
        refine cw_reg ?_
        refine ry (y_mov rfl rfl) rfl rfl ?_
        refine ry (y_neq rfl rfl rfl) rfl rfl ?_
        refine reg_nil ?_
        refine fn_next ?_
        refine cw_condd rfl (fun h81 => ?_) (fun h81 => ?_)
        · skip
          refine cw_seq ?_
          refine cw_reg ?_
          refine ry (y_mov rfl rfl) rfl rfl ?_
          refine ry (y_asg rfl rfl) rfl rfl ?_
          refine reg_nil ?_
          refine fn_next ?_
          refine cw_ret ?_
          refine fn_block_ret (fn_then_ret (fn_then_ret (fn_block_ret (fn_then_ret ?_))))
          refine fn_ret1 rfl rfl ?_
          rw [fillC_v hwi hv]
          rw [fillC_v hw hv, fillV_non (by rw [fillC_v hw hv]; decide)]
          exact ⟨_, rfl, (H79.pickT (p := [_, _, _, _, _, _, _]) (m := [_, _, _]) [4, 5, 0] rfl (by decide)), G.set htl o73, gV_same htl (by rw [e74, fillV_non (by rw [fillC_v hwi hv]; decide)]), by rw [List.length_set], ptrs_set htl⟩
        · exact absurd (Classical.not_not.1 h81) (by rw [fillC_v hwi hv]; decide)
    · skip
      exfalso
      have : 0 < pcs p0 q0 p1 q1 := Nat.mul_pos (by unfold tcol; omega) (by unfold tcol; omega)
      omega

theorem gFill (w0 : World) (l : List Ob) (g a h : Nat) (V : List Int) (bl : Nat → Prop) (x0 y0 x1 y1 v : Int) (w : World) (H0 : HS w0 w (gOb g a h V bl :: l)) : Ret Tryz.prog 100 [.pointer (some ⟨g, 0, none⟩), .agg #[.int .i64 x0, .int .i64 y0, .int .i64 x1, .int .i64 y1], .int .i64 v] w (fun z w' => ∃ bl', z = .int .i64 (fillC a h x0 y0 x1 y1 v) ∧ HS w0 w' (gOb g a h (fillV V a h x0 y0 x1 y1 v) bl' :: l)) := by
  obtain ⟨A, cap, xs, G, rfl, H⟩ := H0.gopen
  have key : Ret Tryz.prog 100 [.pointer (some ⟨g, 0, none⟩), .agg #[.int .i64 x0, .int .i64 y0, .int .i64 x1, .int .i64 y1], .int .i64 v] w (fun z w' => ∃ ys : List Sb, z = .int .i64 (fillC a h x0 y0 x1 y1 v) ∧ HS w0 w' (Ob.blk g [.int .i64 (a : Int), .int .i64 (h : Int), .int .i64 (across a : Int), .slice A xs.length cap] 77 :: Ob.row A xs.length cap (ptrs xs) 79 1 :: obA Sb.obs ys :: l) ∧ GI a h ys ∧ gV ys a h = fillV (gV xs a h) a h x0 y0 x1 y1 v ∧ ys.length = xs.length ∧ ptrs ys = ptrs xs) := by
    by_cases hw : withinC x0 y0 x1 y1 a h = 0
    · obtain ⟨p0, q0, p1, q1, rfl, rfl, rfl, rfl, h1, h2, h3, h4⟩ := gat_nat G hw
      by_cases hv : B32 v
      · exact gridFill_ok w0 l g a h A cap xs p0 q0 p1 q1 v w G h1 h2 h3 h4 hw hv H
      · exact gridFill_v w0 l g a h A cap xs p0 q0 p1 q1 v w G h1 h2 h3 h4 hw hv H
    · exact gridFill_w w0 l g a h A cap xs x0 y0 x1 y1 v w G hw H
  refine Calls.mono key ?_
  rintro e w' ⟨z, rfl, ys, rfl, H1, G1, hV, hl, hp⟩
  rw [← hl, ← hp] at H1
  obtain ⟨bl', H2⟩ := H1.gclose G1 hV
  exact ⟨_, rfl, bl', rfl, H2⟩

end Go.Proofs.YtbnjbgcadkdljaaGreatDoor
