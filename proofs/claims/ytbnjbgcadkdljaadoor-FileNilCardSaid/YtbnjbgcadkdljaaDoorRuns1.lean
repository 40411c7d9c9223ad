/- Layer 5: runs as bytes. -/
import Derived.Test.YtbnjbgcadkdljaaDoorLoopF
set_option linter.unusedVariables false
set_option linter.unusedSimpArgs false
namespace Go.Proofs.YtbnjbgcadkdljaaDoor
open Go Go.RowKit
theorem kfruns1_1 : oneB Tryd.prog 24 = true := by kernel_rfl
theorem kfruns1_2 : callB Tryd.prog 51 = true := by kernel_rfl
theorem kfruns1_3 : szB Tryd.prog 24 1 = true := by kernel_rfl
theorem kfruns1_4 : callB Tryd.prog 52 = true := by kernel_rfl
theorem kfruns1_5 : (Tryd.prog.info? 104).bind (fun i => i.zero.map Value.cells) = some (List.toArray [(.int .i64 0), (.int .i64 0)]) := by kernel_rfl
theorem kfruns1_6 : szB Tryd.prog 104 2 = true := by kernel_rfl
theorem kfruns1_7 : aggB Tryd.prog 104 2 = true := by kernel_rfl
theorem kfruns1_8 : callB Tryd.prog 53 = true := by kernel_rfl
theorem kfruns1_9 : (Tryd.prog.info? 5).map (fun i => (i.zero.map (·.cells.toList), i.size, i.bytes)) = some (some [(.int .u8 0)], 1, 1) := by kernel_rfl
theorem kfruns1_10 : (Tryd.prog.info? 3).bind (fun i => i.zero.map Value.cells) = some (List.toArray [(.int .i64 0)]) := by kernel_rfl
theorem kfruns1_11 : szB Tryd.prog 3 1 = true := by kernel_rfl
theorem kfruns1_12 : oneB Tryd.prog 3 = true := by kernel_rfl
theorem rv_snoc {pre : List Run} {x : Run} : runsB (rvals (pre ++ [x])) = runsB (rvals pre) ++ runB x.1.1 x.1.2 := by
  unfold rvals; rw [List.map_append]; exact runsB_snoc _ _
theorem rv_len {pre : List Run} {zs : List Int} (h : pre.length < (rnl zs 0).length) : (runsB (rvals pre)).length ≤ 11 * zs.length := by
  have h1 := runsB_len (rvals pre)
  have h2 := (rn_len zs 0).2 rfl
  unfold rvals at h1 ⊢; rw [List.length_map] at h1; omega

set_option maxRecDepth 100000 in
theorem runsOf (A : Option Addr) (n cap : Nat) (w : World) :
    Ret Tryd.prog 52 [.slice A n cap] w (fun v w' => ∃ b, v = .func (.func 58) #[] #[.pointer (some ⟨b, 0, none⟩)] ∧ HS w w' [kOb b A n cap]) := by
 refine ret_enter Tryd.func52 rfl rfl rfl ?_
 have H0 := HS.start w
 refine cw_seq ?_
 refine cw_reg ?_
 refine reg_op (op_box (cs := [.slice _ _ _]) H0 rfl rfl rfl) rfl rfl ?_
 rintro _ w2 ⟨b1, rfl, H3⟩
 refine ry (y_asg rfl rfl) rfl rfl ?_
 refine reg_nil ?_
 refine fn_next ?_
 refine cw_seq ?_
 refine cw_reg ?_
 refine ry (y_mkf (first := []) (caps := [_]) (fs := []) (cs := [_]) rfl trivial ⟨rfl, trivial⟩) rfl rfl ?_
 refine ry (y_asg rfl rfl) rfl rfl ?_
 refine reg_nil ?_
 refine fn_next ?_
 refine cw_ret ?_
 refine fn_ret1 rfl rfl ?_
 exact ⟨_, rfl, H3⟩

set_option maxRecDepth 100000 in
set_option maxHeartbeats 1000000 in
theorem runsPut (A0 A : Option Addr) (m cap0 n cap : Nat) (bs zs : List Int) (w : World) (hb : Rd w A0 (vi .u8 bs)) (hbl : bs.length = m) (hm : m ≤ 1000000) (hr : Rd w A (vi .i64 zs)) (hl : zs.length = n) (hn : n ≤ 2000000) (hI : allI zs) :
    Ret Tryd.prog 33 [.slice A0 m cap0, .slice A n cap] w (fun v w' => ∃ A' c, v = .slice A' (m + (runsB (rnl zs 0)).length) c ∧ HS w w' [.row A' (m + (runsB (rnl zs 0)).length) c (vi .u8 (bs ++ runsB (rnl zs 0))) 5 1]) := by
 refine ret_enterM Tryd.func33 rfl rfl rfl ?_
 have H0 := HS.start w
 refine cw_seq ?_
 refine cw_reg ?_
 refine reg_op (op_box (cs := [.slice _ _ _]) H0 rfl rfl rfl) rfl rfl ?_
 rintro _ w2 ⟨b1, rfl, H3⟩
 refine ry (y_asg rfl rfl) rfl rfl ?_
 refine reg_nil ?_
 refine fn_next ?_
 refine cw_seq ?_
 refine cw_reg ?_
 refine ry (y_ld rfl rfl kfruns1_1 (H3.cell (i := 0) rfl rfl)) rfl rfl ?_
 refine reg_op (op_call (CloneB _ _ _ (vi .u8 bs) _ (hb.below H3.base) (by rw [vi_len]; omega) vi_one (by omega)) rfl kfruns1_2 ⟨rfl, trivial⟩) rfl rfl ?_
 rintro _ w5 ⟨A7, c8, rfl, k4⟩
 have H6 := H3.call k4
 refine reg_op (op_st (i := 1) (vs := [.slice _ _ _]) H6 rfl rfl rfl rfl rfl kfruns1_3 rfl rfl rfl) rfl rfl ?_
 rintro _ w9 H10
 refine reg_nil ?_
 refine fn_next ?_
 refine cw_seq ?_
 refine cw_seq ?_
 refine cw_reg ?_
 refine ry (y_mov rfl rfl) rfl rfl ?_
 refine reg_op (op_call (runsOf A n cap _) rfl kfruns1_4 ⟨rfl, trivial⟩) rfl rfl ?_
 rintro _ w12 ⟨b14, rfl, k11⟩
 have H13 := H10.call k11
 refine reg_nil ?_
 refine fn_next ?_
 refine cw_block ?_
 rw [show bs = bs ++ runsB (rvals []) from (List.append_nil _).symm] at H13
 refine cw_runs hr hl hn hI (p := 10) (t := 5) (fun pre l => ∃ (A' : Option Addr) (c : Nat), l = [Ob.row A' (m + (runsB (rvals pre)).length) c (vi .u8 (bs ++ runsB (rvals pre))) 5 1, Ob.blk b1 [.slice A' (m + (runsB (rvals pre)).length) c] 24]) (fun pre l h => by obtain ⟨_, _, rfl⟩ := h; rfl) H13 ⟨_, _, rfl⟩ rfl rfl ?_ ?_ ?_
 ·skip
  rintro rd pre x wA l ⟨A3, c3, rfl⟩ HA
  refine cwI_reg rfl ?_
  refine reg_op (op_alloc HA rfl kfruns1_5) rfl rfl ?_
  rintro _ w16 ⟨b15, rfl, H17⟩
  refine reg_op (op_st (i := 0) (vs := [.int _ _, .int _ _]) H17 rfl rfl rfl rfl rfl kfruns1_6 rfl rfl rfl) rfl rfl ?_
  rintro _ w18 H19
  refine reg_nil ?_
  exact fun a ha => ⟨rfl, rfl, _, ha, H19⟩
 ·skip
  rintro rd pre x wB l b5 ⟨A3, c3, rfl⟩ hlt HB
  have hb1 := rv_len hlt
  have hb3 := (runB_len (k := x.1.1) (z := x.1.2)).2
  refine cwI_block ?_
  refine cwI_drawT HB [1] (.alt (.step 0 (.step 2 (.step 3 (.step 4 (.leaf))))) (.step 2 (.step 0 (.step 3 (.step 4 (.leaf)))))) (fun X HX => (HX.pick (m := [_, _, _]) [0, 1, 2] rfl (by decide))) (by kernel_rfl) (by kernel_rfl) (by rfl) (by kernel_rfl) ?_
  simp only [pick, List.getElem?_cons_succ, List.getElem?_cons_zero]
  refine hk_y (fun Y HY => y_ldb (i := 1) (cs := [_, _]) HY rfl rfl kfruns1_7 rfl rfl) rfl rfl ?_
  refine hkt_nil [11, 13, 14] (fun M wl => ∃ (A' : Option Addr) (c' : Nat), M = [] ∧ HS w wl [Ob.abs (othersAb wB w.heap.size), kOb b14 A n cap, Ob.row A' (m + (runsB (rvals pre)).length + (runB x.1.1 x.1.2).length) c' (vi .u8 (bs ++ runsB (rvals pre)) ++ vi .u8 (runB x.1.1 x.1.2)) 5 1, Ob.blk b1 [.slice A' (m + (runsB (rvals pre)).length + (runB x.1.1 x.1.2).length) c'] 24]) (fun wX HX => ?_) ?_
  ·skip
   refine tt_alt ?_ ?_
   ·skip
    refine tt_op rfl (Yd.op (y_ld rfl rfl kfruns1_1 (HX.cell (i := 4) rfl rfl))) rfl rfl ?_
    rintro _ _ ⟨rfl, rfl⟩
    refine ⟨(HX.pick (m := [_, _, _]) [0, 1, 2] rfl (by decide)), fun w20 e22 => ?_⟩
    have H21 := HX.ext e22
    refine tt_op rfl (op_call (runBytes x.1.1 x.1.2 _ x.2.1 x.2.2) rfl kfruns1_8 ⟨rfl, trivial⟩) rfl rfl ?_
    rintro _ w24 ⟨A26, c27, rfl, k23⟩
    have H25 := H21.call k23
    refine ⟨(H25.pick (m := [_, _, _]) [1, 2, 3] rfl (by decide)), fun w28 e30 => ?_⟩
    have H29 := H25.ext e30
    refine tt_op rfl (op_app (i := 4) H29 rfl rfl rfl rfl (H29.rd (i := 0) rfl) (by rw [vi_len, Nat.mul_one]) (vi_one) Tryd.underlying24 kfruns1_9 rfl rfl (by unfold maxLen; omega) (by omega)) rfl rfl ?_
    rintro _ w33 ⟨A31, c32, rfl, H34⟩
    refine ⟨(H34.pick (m := [_, _, _]) [1, 2, 3] rfl (by decide)), fun w35 e37 => ?_⟩
    have H36 := H34.ext e37
    refine tt_op rfl (op_st (i := 5) (vs := [.slice _ _ _]) H36 rfl rfl rfl rfl rfl kfruns1_3 rfl rfl rfl) rfl rfl ?_
    rintro _ w38 H39
    refine ⟨(H39.pick (m := [_, _, _]) [1, 2, 3] rfl (by decide)), fun w40 e42 => ?_⟩
    have H41 := H39.ext e42
    exact tt_leaf ⟨_, _, rfl, (H41.pick (m := [_, _, _, _]) [1, 3, 4, 5] rfl (by decide))⟩ trivial (by repeat (first | exact kp_refl | refine kp_app rfl rfl ?_ | refine kp_cons rfl ?_))
   refine tt_op rfl (op_call (runBytes x.1.1 x.1.2 _ x.2.1 x.2.2) rfl kfruns1_8 ⟨rfl, trivial⟩) rfl rfl ?_
   rintro _ w44 ⟨A46, c47, rfl, k43⟩
   have H45 := HX.call k43
   refine ⟨(H45.pick (m := [_, _, _]) [1, 2, 3] rfl (by decide)), fun w48 e50 => ?_⟩
   have H49 := H45.ext e50
   refine tt_op rfl (Yd.op (y_ld rfl rfl kfruns1_1 (H49.cell (i := 5) rfl rfl))) rfl rfl ?_
   rintro _ _ ⟨rfl, rfl⟩
   refine ⟨(H49.pick (m := [_, _, _]) [1, 2, 3] rfl (by decide)), fun w51 e53 => ?_⟩
   have H52 := H49.ext e53
   refine tt_op rfl (op_app (i := 4) H52 rfl rfl rfl rfl (H52.rd (i := 0) rfl) (by rw [vi_len, Nat.mul_one]) (vi_one) Tryd.underlying24 kfruns1_9 rfl rfl (by unfold maxLen; omega) (by omega)) rfl rfl ?_
   rintro _ w56 ⟨A54, c55, rfl, H57⟩
   refine ⟨(H57.pick (m := [_, _, _]) [1, 2, 3] rfl (by decide)), fun w58 e60 => ?_⟩
   have H59 := H57.ext e60
   refine tt_op rfl (op_st (i := 5) (vs := [.slice _ _ _]) H59 rfl rfl rfl rfl rfl kfruns1_3 rfl rfl rfl) rfl rfl ?_
   rintro _ w61 H62
   refine ⟨(H62.pick (m := [_, _, _]) [1, 2, 3] rfl (by decide)), fun w63 e65 => ?_⟩
   have H64 := H62.ext e65
   exact tt_leaf ⟨_, _, rfl, (H64.pick (m := [_, _, _, _]) [1, 3, 4, 5] rfl (by decide))⟩ trivial (by repeat (first | exact kp_refl | refine kp_app rfl rfl ?_ | refine kp_cons rfl ?_))
  ·skip
   rintro M w67 ⟨A7, c7, rfl, H66⟩
   refine fn_block ?_
   rw [← vi_app, List.append_assoc, ← rv_snoc, show m + (runsB (rvals pre)).length + (runB x.1.1 x.1.2).length = m + (runsB (rvals (pre ++ [x]))).length by rw [rv_snoc, List.length_append, Nat.add_assoc]] at H66
   exact fun a ha => ⟨rfl, _, ⟨_, _, rfl⟩, H66⟩
 ·skip
  rintro D xs wD l hxs ⟨A3, c3, rfl⟩ HD HE hDk
  rw [hxs] at HD HE
  refine fd_block ?_
  refine fd_next ?_
  refine cd_seq ?_
  refine cd_reg ?_
  refine rd_yd (y_ld rfl rfl kfruns1_1 (HD.cell (i := 2) rfl rfl)) rfl rfl ?_
  refine rd_yd (y_asg rfl rfl) rfl rfl ?_
  refine cd_end ?_
  refine fd_next ?_
  refine cd_ret ?_
  exact fun a ha => mark_ret ha rfl rfl hDk ⟨_, _, rfl, HE.pick (m := [_]) [1] rfl (by decide)⟩

set_option maxRecDepth 100000 in
set_option maxHeartbeats 1000000 in
theorem runsLen (A : Option Addr) (n cap : Nat) (zs : List Int) (w : World) (hr : Rd w A (vi .i64 zs)) (hl : zs.length = n) (hn : n ≤ 2000000) (hI : allI zs) :
    Ret Tryd.prog 41 [.slice A n cap] w (fun v w' => v = .int .i64 ((runsB (rnl zs 0)).length : Int) ∧ Below w.heap.size w w') := by
 refine ret_enterM Tryd.func41 rfl rfl rfl ?_
 have H0 := HS.start w
 refine cw_seq ?_
 refine cw_reg ?_
 refine ry (y_asg rfl rfl) rfl rfl ?_
 refine reg_nil ?_
 refine fn_next ?_
 refine cw_seq ?_
 refine cw_reg ?_
 refine reg_op (op_alloc H0 rfl kfruns1_10) rfl rfl ?_
 rintro _ w2 ⟨b1, rfl, H3⟩
 refine reg_op (op_st (i := 0) (vs := [.int _ _]) H3 rfl rfl rfl rfl rfl kfruns1_11 rfl rfl rfl) rfl rfl ?_
 rintro _ w4 H5
 refine reg_nil ?_
 refine fn_next ?_
 refine cw_seq ?_
 refine cw_seq ?_
 refine cw_reg ?_
 refine ry (y_mov rfl rfl) rfl rfl ?_
 refine reg_op (op_call (runsOf A n cap _) rfl kfruns1_4 ⟨rfl, trivial⟩) rfl rfl ?_
 rintro _ w7 ⟨b9, rfl, k6⟩
 have H8 := H5.call k6
 refine reg_nil ?_
 refine fn_next ?_
 refine cw_block ?_
 refine cw_runs hr hl hn hI (p := 7) (t := 4) (fun pre l => l = [Ob.blk b1 [.int .i64 ((runsB (rvals pre)).length : Int)] 3]) (fun pre l h => by subst h; rfl) H8 rfl rfl rfl ?_ ?_ ?_
 ·skip
  rintro rd pre x wA l rfl HA
  refine cwI_reg rfl ?_
  refine reg_op (op_alloc HA rfl kfruns1_5) rfl rfl ?_
  rintro _ w11 ⟨b10, rfl, H12⟩
  refine reg_op (op_st (i := 0) (vs := [.int _ _, .int _ _]) H12 rfl rfl rfl rfl rfl kfruns1_6 rfl rfl rfl) rfl rfl ?_
  rintro _ w13 H14
  refine reg_nil ?_
  exact fun a ha => ⟨rfl, rfl, _, ha, H14⟩
 ·skip
  rintro rd pre x wB l b5 rfl hlt HB
  have hb1 := rv_len hlt
  have hb3 := (runB_len (k := x.1.1) (z := x.1.2)).2
  refine cwI_block ?_
  refine cwI_drawT HB [1] (.alt (.step 0 (.step 2 (.step 3 (.step 4 (.step 5 (.leaf)))))) (.step 2 (.alt (.step 0 (.step 3 (.step 4 (.step 5 (.leaf))))) (.step 3 (.step 0 (.step 4 (.step 5 (.leaf)))))))) (fun X HX => (HX.pick (m := [_, _, _]) [0, 1, 2] rfl (by decide))) (by kernel_rfl) (by kernel_rfl) (by rfl) (by kernel_rfl) ?_
  simp only [pick, List.getElem?_cons_succ, List.getElem?_cons_zero]
  refine hk_y (fun Y HY => y_ldb (i := 1) (cs := [_, _]) HY rfl rfl kfruns1_7 rfl rfl) rfl rfl ?_
  refine hkt_nil [8, 10, 11, 12] (fun M wl => M = [] ∧ HS w wl [Ob.abs (othersAb wB w.heap.size), kOb b9 A n cap, Ob.blk b1 [.int .i64 (((runsB (rvals pre)).length : Int) + ((runB x.1.1 x.1.2).length : Int))] 3]) (fun wX HX => ?_) ?_
  ·skip
   refine tt_alt ?_ ?_
   ·skip
    refine tt_op rfl (Yd.op (y_ld rfl rfl kfruns1_12 (HX.cell (i := 3) rfl rfl))) rfl rfl ?_
    rintro _ _ ⟨rfl, rfl⟩
    refine ⟨(HX.pick (m := [_, _, _]) [0, 1, 2] rfl (by decide)), fun w15 e17 => ?_⟩
    have H16 := HX.ext e17
    refine tt_op rfl (op_call (runBytes x.1.1 x.1.2 _ x.2.1 x.2.2) rfl kfruns1_8 ⟨rfl, trivial⟩) rfl rfl ?_
    rintro _ w19 ⟨A21, c22, rfl, k18⟩
    have H20 := H16.call k18
    refine ⟨(H20.pick (m := [_, _, _]) [1, 2, 3] rfl (by decide)), fun w23 e25 => ?_⟩
    have H24 := H20.ext e25
    refine tt_op rfl (Yd.op (y_len rfl Tryd.underlying24 rfl)) rfl rfl ?_
    rintro _ _ ⟨rfl, rfl⟩
    refine ⟨(H24.pick (m := [_, _, _]) [1, 2, 3] rfl (by decide)), fun w26 e28 => ?_⟩
    have H27 := H24.ext e28
    refine tt_op rfl (Yd.op (y_add rfl rfl rfl (wi (by omega)))) rfl rfl ?_
    rintro _ _ ⟨rfl, rfl⟩
    refine ⟨(H27.pick (m := [_, _, _]) [1, 2, 3] rfl (by decide)), fun w29 e31 => ?_⟩
    have H30 := H27.ext e31
    refine tt_op rfl (op_st (i := 4) (vs := [.int _ _]) H30 rfl rfl rfl rfl rfl kfruns1_11 rfl rfl rfl) rfl rfl ?_
    rintro _ w32 H33
    refine ⟨(H33.pick (m := [_, _, _]) [1, 2, 3] rfl (by decide)), fun w34 e36 => ?_⟩
    have H35 := H33.ext e36
    exact tt_leaf ⟨rfl, (H35.pick (m := [_, _, _]) [1, 3, 4] rfl (by decide))⟩ trivial (by repeat (first | exact kp_refl | refine kp_app rfl rfl ?_ | refine kp_cons rfl ?_))
   refine tt_op rfl (op_call (runBytes x.1.1 x.1.2 _ x.2.1 x.2.2) rfl kfruns1_8 ⟨rfl, trivial⟩) rfl rfl ?_
   rintro _ w38 ⟨A40, c41, rfl, k37⟩
   have H39 := HX.call k37
   refine ⟨(H39.pick (m := [_, _, _]) [1, 2, 3] rfl (by decide)), fun w42 e44 => ?_⟩
   have H43 := H39.ext e44
   refine tt_alt ?_ ?_
   ·skip
    refine tt_op rfl (Yd.op (y_ld rfl rfl kfruns1_12 (H43.cell (i := 4) rfl rfl))) rfl rfl ?_
    rintro _ _ ⟨rfl, rfl⟩
    refine ⟨(H43.pick (m := [_, _, _]) [1, 2, 3] rfl (by decide)), fun w45 e47 => ?_⟩
    have H46 := H43.ext e47
    refine tt_op rfl (Yd.op (y_len rfl Tryd.underlying24 rfl)) rfl rfl ?_
    rintro _ _ ⟨rfl, rfl⟩
    refine ⟨(H46.pick (m := [_, _, _]) [1, 2, 3] rfl (by decide)), fun w48 e50 => ?_⟩
    have H49 := H46.ext e50
    refine tt_op rfl (Yd.op (y_add rfl rfl rfl (wi (by omega)))) rfl rfl ?_
    rintro _ _ ⟨rfl, rfl⟩
    refine ⟨(H49.pick (m := [_, _, _]) [1, 2, 3] rfl (by decide)), fun w51 e53 => ?_⟩
    have H52 := H49.ext e53
    refine tt_op rfl (op_st (i := 4) (vs := [.int _ _]) H52 rfl rfl rfl rfl rfl kfruns1_11 rfl rfl rfl) rfl rfl ?_
    rintro _ w54 H55
    refine ⟨(H55.pick (m := [_, _, _]) [1, 2, 3] rfl (by decide)), fun w56 e58 => ?_⟩
    have H57 := H55.ext e58
    exact tt_leaf ⟨rfl, (H57.pick (m := [_, _, _]) [1, 3, 4] rfl (by decide))⟩ trivial (by repeat (first | exact kp_refl | refine kp_app rfl rfl ?_ | refine kp_cons rfl ?_))
   refine tt_op rfl (Yd.op (y_len rfl Tryd.underlying24 rfl)) rfl rfl ?_
   rintro _ _ ⟨rfl, rfl⟩
   refine ⟨(H43.pick (m := [_, _, _]) [1, 2, 3] rfl (by decide)), fun w59 e61 => ?_⟩
   have H60 := H43.ext e61
   refine tt_op rfl (Yd.op (y_ld rfl rfl kfruns1_12 (H60.cell (i := 4) rfl rfl))) rfl rfl ?_
   rintro _ _ ⟨rfl, rfl⟩
   refine ⟨(H60.pick (m := [_, _, _]) [1, 2, 3] rfl (by decide)), fun w62 e64 => ?_⟩
   have H63 := H60.ext e64
   refine tt_op rfl (Yd.op (y_add rfl rfl rfl (wi (by omega)))) rfl rfl ?_
   rintro _ _ ⟨rfl, rfl⟩
   refine ⟨(H63.pick (m := [_, _, _]) [1, 2, 3] rfl (by decide)), fun w65 e67 => ?_⟩
   have H66 := H63.ext e67
   refine tt_op rfl (op_st (i := 4) (vs := [.int _ _]) H66 rfl rfl rfl rfl rfl kfruns1_11 rfl rfl rfl) rfl rfl ?_
   rintro _ w68 H69
   refine ⟨(H69.pick (m := [_, _, _]) [1, 2, 3] rfl (by decide)), fun w70 e72 => ?_⟩
   have H71 := H69.ext e72
   exact tt_leaf ⟨rfl, (H71.pick (m := [_, _, _]) [1, 3, 4] rfl (by decide))⟩ trivial (by repeat (first | exact kp_refl | refine kp_app rfl rfl ?_ | refine kp_cons rfl ?_))
  ·skip
   rintro M w74 ⟨rfl, H73⟩
   refine fn_block ?_
   rw [show ((runsB (rvals pre)).length : Int) + ((runB x.1.1 x.1.2).length : Int) = ((runsB (rvals (pre ++ [x]))).length : Int) by rw [rv_snoc, List.length_append]; rfl] at H73
   exact fun a ha => ⟨rfl, _, rfl, H73⟩
 ·skip
  rintro D xs wD l hxs rfl HD HE hDk
  rw [hxs] at HD HE
  refine fd_block ?_
  refine fd_next ?_
  refine cd_seq ?_
  refine cd_reg ?_
  refine rd_yd (y_ld rfl rfl kfruns1_12 (HD.cell (i := 1) rfl rfl)) rfl rfl ?_
  refine rd_yd (y_asg rfl rfl) rfl rfl ?_
  refine cd_end ?_
  refine fd_next ?_
  refine cd_ret ?_
  exact fun a ha => mark_ret ha rfl rfl hDk ⟨rfl, HE.base⟩

end Go.Proofs.YtbnjbgcadkdljaaDoor
