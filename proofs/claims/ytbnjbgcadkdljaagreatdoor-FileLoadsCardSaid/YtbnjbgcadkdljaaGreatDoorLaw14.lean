/- Layer 14: FileLoads. -/
import Derived.Test.YtbnjbgcadkdljaaGreatDoorFile3
import Derived.Test.YtbnjbgcadkdljaaGreatDoorFile4
import Derived.Test.YtbnjbgcadkdljaaGreatDoorLaw9a
set_option linter.unusedVariables false
set_option linter.unusedSimpArgs false
namespace Go.Proofs.YtbnjbgcadkdljaaGreatDoor
open Go Go.RowKit
theorem kflaw14_1 : callB Tryz.prog 4 = true := by kernel_rfl
theorem kflaw14_2 : callB Tryz.prog 5 = true := by kernel_rfl
theorem kflaw14_3 : (Tryz.prog.info? 26).bind (fun i => i.zero.map Value.cells) = some (List.toArray [(.int .i64 0), (.int .i64 0), (.slice none 0 0)]) := by kernel_rfl
theorem kflaw14_4 : szB Tryz.prog 26 3 = true := by kernel_rfl
theorem kflaw14_5 : callB Tryz.prog 6 = true := by kernel_rfl
theorem kflaw14_6 : fldB Tryz.prog 26 0 0 = true := by kernel_rfl
theorem kflaw14_7 : oneB Tryz.prog 2 = true := by kernel_rfl
theorem kflaw14_8 : fldB Tryz.prog 26 1 1 = true := by kernel_rfl
theorem kflaw14_9 : aggB Tryz.prog 26 3 = true := by kernel_rfl
theorem kflaw14_10 : callB Tryz.prog 7 = true := by kernel_rfl
theorem kflaw14_11 : callB Tryz.prog 8 = true := by kernel_rfl
theorem kflaw14_12 : callB Tryz.prog 9 = true := by kernel_rfl

theorem fLoad_bad (A : Option Addr) (n c : Nat) (bs : List Int) (w : World) (hg : Rd w (some ⟨0, 0, none⟩) (vi .u32 tblI)) (hb : Rd w A (vi .u8 bs)) (hl : bs.length = n) (hcap : n ≤ c) (hB : okB bs) (hn : n ≤ 6000) (hx : ¬ (seald bs ∧ fileP (bs.take (n - 4)))) : Ret Tryz.prog 6 [.slice A n c] w (fun v w' => v = .tuple #[.pointer none, .slice none 0 0, .int .i64 10] ∧ Below w.heap.size w w') := by
  by_cases hs : seald bs
  · by_cases hc : (dgS (bs.take (n - 4))).2.2.2 = 0
    · obtain ⟨a, h, N, D⟩ := dirOk_of hc
      refine Calls.mono (fLoad_D A n c bs a h N w hg hb hl hcap hB hn hs D) ?_
      rintro e w' ⟨z, rfl, ⟨hf, _⟩ | ⟨_, h1, h2⟩⟩
      · exact absurd ⟨hs, hf⟩ hx
      · exact ⟨_, rfl, h1, h2⟩
    · exact fLoad_dir A n c bs w hg hb hl hcap hB hn hs hc
  · exact fLoad_un A n c bs w hg hb hl hcap hB hn hs

theorem mLoad_bad (A : Option Addr) (n c : Nat) (bs : List Int) (w : World) (hb : Rd w A (vi .u8 bs)) (hl : bs.length = n) (hcap : n ≤ c) (hB : okB bs) (hn : n ≤ 6000) (hx : ¬ (seald bs ∧ fileP (bs.take (n - 4)))) : Ret Tryz.prog 5 [.slice A n c] w (fun v w' => v = .tuple #[.agg #[.int .i64 0, .int .i64 0, .slice none 0 0], .slice none 0 0, .bool false] ∧ Below w.heap.size w w') := by
  by_cases hs : seald bs
  · by_cases hc : (dgS (bs.take (n - 4))).2.2.2 = 0
    · obtain ⟨a, h, N, D⟩ := dirOk_of hc
      refine Calls.mono (mLoad_D A n c bs a h N w hb hl hcap hB hn hs D) ?_
      rintro e w' ⟨z, rfl, ⟨hf, _⟩ | ⟨_, h1, h2⟩⟩
      · exact absurd ⟨hs, hf⟩ hx
      · exact ⟨_, rfl, h1, h2⟩
    · exact mLoad_dir A n c bs w hb hl hcap hB hn hs hc
  · exact mLoad_un A n c bs w hb hl hcap hB hn hs

theorem fLoad_ok (A : Option Addr) (n c : Nat) (bs : List Int) (a h N : Nat) (w : World) (hg : Rd w (some ⟨0, 0, none⟩) (vi .u32 tblI)) (hb : Rd w A (vi .u8 bs)) (hl : bs.length = n) (hcap : n ≤ c) (hB : okB bs) (hn : n ≤ 6000) (hs : seald bs) (D : DirOk (bs.take (n - 4)) a h N) (hf : fileP (bs.take (n - 4))) : Ret Tryz.prog 6 [.slice A n c] w (fun v w' => ∃ g bl A' c', v = .tuple #[.pointer (some ⟨g, 0, none⟩), .slice A' N c', .int .i64 0] ∧ HS w w' [gOb g a h (vZ (bs.take (n - 4)) N) bl, .row A' N c' (vi .i64 (kZ (bs.take (n - 4)) N)) 3 1]) := by
  refine Calls.mono (fLoad_D A n c bs a h N w hg hb hl hcap hB hn hs D) ?_
  rintro e w' ⟨z, rfl, ⟨_, h1⟩ | ⟨hx, _⟩⟩
  · exact ⟨_, rfl, h1⟩
  · exact absurd hf hx

theorem mLoad_ok (A : Option Addr) (n c : Nat) (bs : List Int) (a h N : Nat) (w : World) (hb : Rd w A (vi .u8 bs)) (hl : bs.length = n) (hcap : n ≤ c) (hB : okB bs) (hn : n ≤ 6000) (hs : seald bs) (D : DirOk (bs.take (n - 4)) a h N) (hf : fileP (bs.take (n - 4))) : Ret Tryz.prog 5 [.slice A n c] w (fun v w' => ∃ A' c' K ck, v = .tuple #[.agg #[.int .i64 (a : Int), .int .i64 (h : Int), .slice A' (a * h) c'], .slice K N ck, .bool true] ∧ HS w w' [.row A' (a * h) c' (vi .i64 (vZ (bs.take (n - 4)) N)) 2 1, .row K N ck (vi .i64 (kZ (bs.take (n - 4)) N)) 3 1]) := by
  refine Calls.mono (mLoad_D A n c bs a h N w hb hl hcap hB hn hs D) ?_
  rintro e w' ⟨z, rfl, ⟨_, h1⟩ | ⟨hx, _⟩⟩
  · exact ⟨_, rfl, h1⟩
  · exact absurd hf hx

set_option maxRecDepth 100000 in
theorem fileLoads_big (A : Option Addr) (n c : Nat) (bs : List Int) (w : World) (hg : Rd w (some ⟨0, 0, none⟩) (vi .u32 tblI)) (hb : Rd w A (vi .u8 bs)) (hn : 6000 < n) :
    Ret Tryz.prog 3 [.slice A n c] w (fun v w' => v = .bool true ∧ Below w.heap.size w w') := by
 refine ret_enter Tryz.func3 rfl rfl rfl ?_
 have H0 := HS.start w
 refine cw_seq ?_
 refine cw_reg ?_
 refine ry (y_asg rfl rfl) rfl rfl ?_
 refine reg_nil ?_
 refine fn_next ?_
 refine cw_seq ?_
 refine cw_seq ?_
 refine cw_reg ?_
 refine reg_op (op_call (awake14 _ (hg.below H0.base)) rfl kflaw14_1 trivial) rfl rfl ?_
 rintro _ w2 ⟨rfl, e1⟩
 have H3 := H0.ext e1
 refine ry (y_not rfl rfl) rfl rfl ?_
 refine reg_nil ?_
 refine fn_next ?_
 refine cw_condf rfl ?_
 refine cw_skip ?_
 refine fn_next ?_
 refine cw_seq ?_
 refine cw_seq ?_
 refine cw_reg ?_
 refine ry (y_mov rfl rfl) rfl rfl ?_
 refine ry (y_len rfl Tryz.underlying22 rfl) rfl rfl ?_
 refine ry (y_gtr rfl rfl rfl) rfl rfl ?_
 refine reg_nil ?_
 refine fn_next ?_
 refine cw_condd rfl (fun h4 => ?_) (fun h4 => ?_)
 ·skip
  refine cw_seq ?_
  refine cw_reg ?_
  refine ry (y_asg rfl rfl) rfl rfl ?_
  refine reg_nil ?_
  refine fn_next ?_
  refine cw_ret ?_
  refine fn_then_ret ?_
  refine fn_ret1 rfl rfl ?_
  exact ⟨rfl, H3.base⟩
 · exfalso; omega

set_option maxRecDepth 100000 in
theorem fileLoads_bad (A : Option Addr) (n c : Nat) (bs : List Int) (w : World) (hg : Rd w (some ⟨0, 0, none⟩) (vi .u32 tblI)) (hb : Rd w A (vi .u8 bs)) (hl : bs.length = n) (hcap : n ≤ c) (hB : okB bs) (hn : n ≤ 6000) (hx : ¬ (seald bs ∧ fileP (bs.take (n - 4)))) :
    Ret Tryz.prog 3 [.slice A n c] w (fun v w' => v = .bool true ∧ Below w.heap.size w w') := by
 refine ret_enter Tryz.func3 rfl rfl rfl ?_
 have H0 := HS.start w
 refine cw_seq ?_
 refine cw_reg ?_
 refine ry (y_asg rfl rfl) rfl rfl ?_
 refine reg_nil ?_
 refine fn_next ?_
 refine cw_seq ?_
 refine cw_seq ?_
 refine cw_reg ?_
 refine reg_op (op_call (awake14 _ (hg.below H0.base)) rfl kflaw14_1 trivial) rfl rfl ?_
 rintro _ w2 ⟨rfl, e1⟩
 have H3 := H0.ext e1
 refine ry (y_not rfl rfl) rfl rfl ?_
 refine reg_nil ?_
 refine fn_next ?_
 refine cw_condf rfl ?_
 refine cw_skip ?_
 refine fn_next ?_
 refine cw_seq ?_
 refine cw_seq ?_
 refine cw_reg ?_
 refine ry (y_mov rfl rfl) rfl rfl ?_
 refine ry (y_len rfl Tryz.underlying22 rfl) rfl rfl ?_
 refine ry (y_gtr rfl rfl rfl) rfl rfl ?_
 refine reg_nil ?_
 refine fn_next ?_
 refine cw_condd rfl (fun h4 => ?_) (fun h4 => ?_)
 · exfalso; omega
 ·skip
  refine cw_skip ?_
  refine fn_next ?_
  refine cw_seq ?_
  refine cw_reg ?_
  refine ry (y_mov rfl rfl) rfl rfl ?_
  refine reg_op (op_call (mLoad_bad A n c bs _ (hb.below H3.base) hl hcap hB hn hx) rfl kflaw14_2 ⟨rfl, trivial⟩) rfl rfl ?_
  rintro _ w6 ⟨rfl, e5⟩
  have H7 := H3.ext e5
  refine ry (y_mov rfl rfl) rfl rfl ?_
  refine ry (y_ext rfl rfl rfl) rfl rfl ?_
  refine ry (y_ext rfl rfl rfl) rfl rfl ?_
  refine ry (y_ext rfl rfl rfl) rfl rfl ?_
  refine reg_op (op_alloc H7 rfl kflaw14_3) rfl rfl ?_
  rintro _ w9 ⟨b8, rfl, H10⟩
  refine reg_op (op_st (i := 0) (vs := [.int _ _, .int _ _, .slice _ _ _]) H10 rfl rfl rfl rfl rfl kflaw14_4 rfl rfl rfl) rfl rfl ?_
  rintro _ w11 H12
  refine ry (y_asg rfl rfl) rfl rfl ?_
  refine ry (y_asg rfl rfl) rfl rfl ?_
  refine reg_nil ?_
  refine fn_next ?_
  refine cw_seq ?_
  refine cw_seq ?_
  refine cw_reg ?_
  refine ry (y_mov rfl rfl) rfl rfl ?_
  refine ry (y_mov rfl rfl) rfl rfl ?_
  refine rg_off rfl rfl rfl rfl rfl ?_
  refine rg_off rfl rfl rfl rfl rfl ?_
  refine rg_off rfl rfl rfl rfl rfl ?_
  refine rg_off rfl rfl rfl rfl rfl ?_
  refine rg_off rfl rfl rfl rfl rfl ?_
  refine rg_off rfl rfl rfl rfl rfl ?_
  refine ry (y_pick rfl rfl rfl) rfl rfl ?_
  refine reg_nil ?_
  refine fn_next ?_
  refine cw_condf rfl ?_
  refine cw_skip ?_
  refine fn_next ?_
  refine cw_seq ?_
  refine cw_reg ?_
  refine ry (y_mov rfl rfl) rfl rfl ?_
  refine reg_op (op_call (fLoad_bad A n c bs _ (hg.below H12.base) (hb.below H12.base) hl hcap hB hn hx) rfl kflaw14_5 ⟨rfl, trivial⟩) rfl rfl ?_
  rintro _ w14 ⟨rfl, e13⟩
  have H15 := H12.ext e13
  refine ry (y_mov rfl rfl) rfl rfl ?_
  refine ry (y_ext rfl rfl rfl) rfl rfl ?_
  refine ry (y_ext rfl rfl rfl) rfl rfl ?_
  refine ry (y_ext rfl rfl rfl) rfl rfl ?_
  refine ry (y_asg rfl rfl) rfl rfl ?_
  refine ry (y_asg rfl rfl) rfl rfl ?_
  refine ry (y_asg rfl rfl) rfl rfl ?_
  refine reg_nil ?_
  refine fn_next ?_
  refine cw_seq ?_
  refine cw_seq ?_
  refine cw_reg ?_
  refine ry (y_mov rfl rfl) rfl rfl ?_
  refine ry (y_not rfl rfl) rfl rfl ?_
  refine reg_nil ?_
  refine fn_next ?_
  refine cw_condt rfl ?_
  refine cw_seq ?_
  refine cw_reg ?_
  refine ry (y_mov rfl rfl) rfl rfl ?_
  refine ry (y_peqlnil rfl Tryz.underlying30 rfl rfl) rfl rfl ?_
  refine ry (y_mov rfl rfl) rfl rfl ?_
  refine rgy (y_mov rfl rfl) rfl rfl rfl rfl ?_
  refine rgy (y_len rfl Tryz.underlying27 rfl) rfl rfl rfl rfl ?_
  refine rgy (y_eql rfl rfl rfl) rfl rfl rfl rfl ?_
  refine ry (y_pick rfl rfl rfl) rfl rfl ?_
  refine ry (y_mov rfl rfl) rfl rfl ?_
  refine rgy (y_mov rfl rfl) rfl rfl rfl rfl ?_
  refine rgy (y_eql rfl rfl rfl) rfl rfl rfl rfl ?_
  refine ry (y_pick rfl rfl rfl) rfl rfl ?_
  refine ry (y_asg rfl rfl) rfl rfl ?_
  refine reg_nil ?_
  refine fn_next ?_
  refine cw_ret ?_
  refine fn_then_ret ?_
  refine fn_ret1 rfl rfl ?_
  exact ⟨rfl, H15.base⟩

set_option maxRecDepth 100000 in
set_option maxHeartbeats 2000000 in
theorem fileLoads_ok (A : Option Addr) (n c : Nat) (bs : List Int) (a h N : Nat) (w : World) (hg : Rd w (some ⟨0, 0, none⟩) (vi .u32 tblI)) (hb : Rd w A (vi .u8 bs)) (hl : bs.length = n) (hcap : n ≤ c) (hB : okB bs) (hn : n ≤ 6000) (hs : seald bs) (D : DirOk (bs.take (n - 4)) a h N) (hf : fileP (bs.take (n - 4))) :
    Ret Tryz.prog 3 [.slice A n c] w (fun v w' => v = .bool true ∧ Below w.heap.size w w') := by
 have hBt := okB_take hB (n - 4)
 have hlt : (bs.take (n - 4)).length = n - 4 := by rw [List.length_take]; omega
 obtain ⟨s1, s2, s3, s4⟩ := id D.sz
 have hbk : (bs.take (n - 4)) ++ tailB (crcM 0#32 (bs.take (n - 4))) = bs := by have h1 := hs.2; rw [hl] at h1; rw [h1, List.take_append_drop]
 have hba : Byt ((bs.take (n - 4)) ++ tailB (crcM 0#32 (bs.take (n - 4)))) := by rw [hbk]; exact okB_byt.1 hB
 have hbb := okB_byt.1 hB
 refine ret_enter Tryz.func3 rfl rfl rfl ?_
 have H0 := HS.start w
 refine cw_seq ?_
 refine cw_reg ?_
 refine ry (y_asg rfl rfl) rfl rfl ?_
 refine reg_nil ?_
 refine fn_next ?_
 refine cw_seq ?_
 refine cw_seq ?_
 refine cw_reg ?_
 refine reg_op (op_call (awake14 _ (hg.below H0.base)) rfl kflaw14_1 trivial) rfl rfl ?_
 rintro _ w2 ⟨rfl, e1⟩
 have H3 := H0.ext e1
 refine ry (y_not rfl rfl) rfl rfl ?_
 refine reg_nil ?_
 refine fn_next ?_
 refine cw_condf rfl ?_
 refine cw_skip ?_
 refine fn_next ?_
 refine cw_seq ?_
 refine cw_seq ?_
 refine cw_reg ?_
 refine ry (y_mov rfl rfl) rfl rfl ?_
 refine ry (y_len rfl Tryz.underlying22 rfl) rfl rfl ?_
 refine ry (y_gtr rfl rfl rfl) rfl rfl ?_
 refine reg_nil ?_
 refine fn_next ?_
 refine cw_condd rfl (fun h4 => ?_) (fun h4 => ?_)
 · exfalso; omega
 ·skip
  refine cw_skip ?_
  refine fn_next ?_
  refine cw_seq ?_
  refine cw_reg ?_
  refine ry (y_mov rfl rfl) rfl rfl ?_
  refine reg_op (op_call (mLoad_ok A n c bs a h N _ (hb.below H3.base) hl hcap hB hn hs D hf) rfl kflaw14_2 ⟨rfl, trivial⟩) rfl rfl ?_
  rintro _ w6 ⟨A8, c9, B10, d11, rfl, k5⟩
  have H7 := H3.call k5
  refine ry (y_mov rfl rfl) rfl rfl ?_
  refine ry (y_ext rfl rfl rfl) rfl rfl ?_
  refine ry (y_ext rfl rfl rfl) rfl rfl ?_
  refine ry (y_ext rfl rfl rfl) rfl rfl ?_
  refine reg_op (op_alloc H7 rfl kflaw14_3) rfl rfl ?_
  rintro _ w13 ⟨b12, rfl, H14⟩
  refine reg_op (op_st (i := 0) (vs := [.int _ _, .int _ _, .slice _ _ _]) H14 rfl rfl rfl rfl rfl kflaw14_4 rfl rfl rfl) rfl rfl ?_
  rintro _ w15 H16
  refine ry (y_asg rfl rfl) rfl rfl ?_
  refine ry (y_asg rfl rfl) rfl rfl ?_
  refine reg_nil ?_
  refine fn_next ?_
  refine cw_seq ?_
  refine cw_seq ?_
  refine cw_reg ?_
  refine ry (y_mov rfl rfl) rfl rfl ?_
  refine ry (y_mov rfl rfl) rfl rfl ?_
  refine rgy (y_fa rfl rfl kflaw14_6 rfl) rfl rfl rfl rfl ?_
  refine rgy (y_ld rfl rfl kflaw14_7 (H16.cell (i := 0) rfl rfl)) rfl rfl rfl rfl ?_
  refine rgy (y_fa rfl rfl kflaw14_8 rfl) rfl rfl rfl rfl ?_
  refine rgy (y_ld rfl rfl kflaw14_7 (H16.cell (i := 0) rfl rfl)) rfl rfl rfl rfl ?_
  refine rgy (y_mul rfl rfl rfl (show _ = ((a * h : Nat) : Int) from by rw [← Int.natCast_mul]; exact wi (by have := D.sz.mul; omega))) rfl rfl rfl rfl ?_
  refine rgy (y_gtr rfl rfl rfl) rfl rfl rfl rfl ?_
  refine ry (y_pick rfl rfl rfl) rfl rfl ?_
  refine reg_nil ?_
  refine fn_next ?_
  refine cw_condd rfl (fun h17 => ?_) (fun h17 => ?_)
  ·skip
   refine cw_seq ?_
   refine cw_reg ?_
   refine ry (y_asg rfl rfl) rfl rfl ?_
   refine reg_nil ?_
   refine fn_next ?_
   refine cw_ret ?_
   refine fn_then_ret ?_
   refine fn_ret1 rfl rfl ?_
   exact ⟨rfl, H16.base⟩
  ·skip
   refine cw_skip ?_
   refine fn_next ?_
   refine cw_seq ?_
   refine cw_reg ?_
   refine ry (y_mov rfl rfl) rfl rfl ?_
   refine reg_op (op_call (fLoad_ok A n c bs a h N _ (hg.below H16.base) (hb.below H16.base) hl hcap hB hn hs D hf) rfl kflaw14_5 ⟨rfl, trivial⟩) rfl rfl ?_
   rintro _ w19 ⟨g21, bl22, A23, c24, rfl, k18⟩
   have H20 := H16.call k18
   refine ry (y_mov rfl rfl) rfl rfl ?_
   refine ry (y_ext rfl rfl rfl) rfl rfl ?_
   refine ry (y_ext rfl rfl rfl) rfl rfl ?_
   refine ry (y_ext rfl rfl rfl) rfl rfl ?_
   refine ry (y_asg rfl rfl) rfl rfl ?_
   refine ry (y_asg rfl rfl) rfl rfl ?_
   refine ry (y_asg rfl rfl) rfl rfl ?_
   refine reg_nil ?_
   refine fn_next ?_
   refine cw_seq ?_
   refine cw_seq ?_
   refine cw_reg ?_
   refine ry (y_mov rfl rfl) rfl rfl ?_
   refine ry (y_not rfl rfl) rfl rfl ?_
   refine reg_nil ?_
   refine fn_next ?_
   refine cw_condf rfl ?_
   refine cw_skip ?_
   refine fn_next ?_
   refine cw_seq ?_
   refine cw_seq ?_
   refine cw_reg ?_
   refine ry (y_mov rfl rfl) rfl rfl ?_
   refine ry (y_neq rfl rfl rfl) rfl rfl ?_
   refine ry (y_mov rfl rfl) rfl rfl ?_
   refine rgy (y_mov rfl rfl) rfl rfl rfl rfl ?_
   refine rgy (y_ldb (i := 2) (cs := [_, _, _]) H20 rfl rfl kflaw14_9 rfl rfl) rfl rfl rfl rfl ?_
   refine rg_on rfl rfl rfl (op_call (lIs _ a h _ _ _ _ (H20.rdg (i := 0) rfl) (H20.rd (i := 3) rfl)) rfl kflaw14_10 ⟨rfl, rfl, trivial⟩) rfl ?_
   rintro _ w26 ⟨rfl, e25⟩
   have H27 := H20.ext e25
   refine rgy (y_not rfl rfl) rfl rfl rfl rfl ?_
   refine ry (y_pick rfl rfl rfl) rfl rfl ?_
   refine ry (y_mov rfl rfl) rfl rfl ?_
   refine rgy (y_mov rfl rfl) rfl rfl rfl rfl ?_
   refine rgy (y_mov rfl rfl) rfl rfl rfl rfl ?_
   refine rg_on rfl rfl rfl (op_call (sameInts14 _ _ N _ _ (kZ (bs.take (n - 4)) N) _ (H27.rd (i := 1) rfl) (H27.rd (i := 4) rfl) (kZ_len N) (by have := D.bd; omega)) rfl kflaw14_11 ⟨rfl, rfl, trivial⟩) rfl ?_
   rintro _ w29 ⟨rfl, e28⟩
   have H30 := H27.ext e28
   refine rgy (y_not rfl rfl) rfl rfl rfl rfl ?_
   refine ry (y_pick rfl rfl rfl) rfl rfl ?_
   refine reg_nil ?_
   refine fn_next ?_
   refine cw_condf rfl ?_
   refine cw_skip ?_
   refine fn_next ?_
   refine cw_seq ?_
   refine cw_reg ?_
   refine ry (y_mov rfl rfl) rfl rfl ?_
   refine ry (y_mov rfl rfl) rfl rfl ?_
   refine reg_op (op_call (fSave _ a h N (bs.take (n - 4)) _ _ _ (hg.below H30.base) D hBt hf (by omega) (H30.rdg (i := 0) rfl) (H30.rd (i := 1) rfl)) rfl kflaw14_12 ⟨rfl, rfl, trivial⟩) rfl rfl ?_
   rintro _ w32 ⟨A34, c35, rfl, k31⟩
   have H33 := H30.call k31
   refine ry (y_mov rfl rfl) rfl rfl ?_
   refine ry (y_ext rfl rfl rfl) rfl rfl ?_
   refine ry (y_ext rfl rfl rfl) rfl rfl ?_
   refine ry (y_asg rfl rfl) rfl rfl ?_
   refine ry (y_asg rfl rfl) rfl rfl ?_
   refine reg_nil ?_
   refine fn_next ?_
   refine cw_seq ?_
   refine cw_reg ?_
   refine ry (y_mov rfl rfl) rfl rfl ?_
   refine ry (y_eql rfl rfl rfl) rfl rfl ?_
   refine ry (y_mov rfl rfl) rfl rfl ?_
   refine rgy (y_mov rfl rfl) rfl rfl rfl rfl ?_
   refine rgy (y_str rfl Tryz.underlying22 Tryz.underlying5 Tryz.underlying9 rfl (H33.rd (i := 0) rfl) (rfl)) rfl rfl rfl rfl ?_
   refine rgy (y_mov rfl rfl) rfl rfl rfl rfl ?_
   refine rgy (y_str rfl Tryz.underlying22 Tryz.underlying5 Tryz.underlying9 rfl (hb.below H33.base) (hl)) rfl rfl rfl rfl ?_
   refine rgy (y_streq rfl rfl rfl (hba) (hbb)) rfl rfl rfl rfl ?_
   refine ry (y_pick rfl rfl rfl) rfl rfl ?_
   refine ry (y_asg rfl rfl) rfl rfl ?_
   refine reg_nil ?_
   refine fn_next ?_
   refine cw_ret ?_
   refine fn_ret1 rfl rfl ?_
   exact ⟨congrArg Value.bool (decide_eq_true hbk), H33.base⟩

theorem fileLoads_all (A : Option Addr) (n c : Nat) (bs : List Int) (w : World) (hg : Rd w (some ⟨0, 0, none⟩) (vi .u32 tblI)) (hb : Rd w A (vi .u8 bs)) (hl : bs.length = n) (hcap : n ≤ c) (hB : okB bs) : Ret Tryz.prog 3 [.slice A n c] w (fun v w' => v = .bool true ∧ Below w.heap.size w w') := by
  rcases Nat.lt_or_ge 6000 n with q | q
  · exact fileLoads_big A n c bs w hg hb q
  · by_cases hx : seald bs ∧ fileP (bs.take (n - 4))
    · obtain ⟨hs, hf⟩ := hx
      obtain ⟨a, h, N, D⟩ := dirOk_of hf.1
      exact fileLoads_ok A n c bs a h N w hg hb hl hcap hB q hs D hf
    · exact fileLoads_bad A n c bs w hg hb hl hcap hB q hx
theorem fileLoads_walk (bs : List Int) (A : Option Addr) (n c : Nat) (W : World) (hg : Rd W (some ⟨0, 0, none⟩) (vi .u32 tblI)) (hb : Ints .u8 W A n bs) (hcap : n ≤ c) (_ : c ≤ maxLen) (hB : ∀ z ∈ bs, 0 ≤ z ∧ z ≤ 255) :
    Calls Tryz.prog 3 #[.slice A n c] W fun e W' => e = .returned (.bool true) ∧ Below W.heap.size W W' := lawOf (fileLoads_all A n c bs W hg (Rd.of_ints hb) hb.len hcap hB)

end Go.Proofs.YtbnjbgcadkdljaaGreatDoor
