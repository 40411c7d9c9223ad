/- Layer 13: the laws. -/
import Derived.Test.YtdaiapghoihagaaLaw13a
set_option linter.unusedVariables false
set_option linter.unusedSimpArgs false
namespace Go.Proofs.Ytdaiapghoihagaa
open Go Go.RowKit
theorem kflaw13b_1 : callB Try.prog 22 = true := by kernel_rfl
theorem kflaw13b_2 : callB Try.prog 23 = true := by kernel_rfl
theorem kflaw13b_3 : callB Try.prog 24 = true := by kernel_rfl
theorem kflaw13b_4 : callB Try.prog 25 = true := by kernel_rfl
theorem kflaw13b_5 : callB Try.prog 26 = true := by kernel_rfl
theorem kflaw13b_6 : callB Try.prog 27 = true := by kernel_rfl
theorem kflaw13b_7 : callB Try.prog 28 = true := by kernel_rfl
theorem kflaw13b_8 : (Try.prog.info? 5).map (fun i => (i.size, i.zero.map Value.cells)) = some (1, some (List.toArray [(.int .u8 0)])) := by kernel_rfl
theorem kflaw13b_9 : (Try.prog.info? 5).map (fun i => (i.zero.map (·.cells.toList), i.size, i.bytes)) = some (some [(.int .u8 0)], 1, 1) := by kernel_rfl
theorem kflaw13b_10 : callB Try.prog 29 = true := by kernel_rfl
theorem kflaw13b_11 : elB Try.prog 44 2 = true := by kernel_rfl
theorem kflaw13b_12 : fldB Try.prog 48 0 0 = true := by kernel_rfl
theorem kflaw13b_13 : oneB Try.prog 2 = true := by kernel_rfl
theorem kflaw13b_14 : fldB Try.prog 48 1 1 = true := by kernel_rfl
theorem kflaw13b_15 : elB Try.prog 23 1 = true := by kernel_rfl
theorem kflaw13b_16 : callB Try.prog 30 = true := by kernel_rfl
theorem kflaw13b_17 : callB Try.prog 31 = true := by kernel_rfl
theorem kflaw13b_18 : (Try.prog.info? 2).map (fun i => (i.size, i.zero.map Value.cells)) = some (1, some (List.toArray [(.int .i64 0)])) := by kernel_rfl
theorem kflaw13b_19 : (Try.prog.info? 2).map (fun i => (i.zero.map (·.cells.toList), i.size, i.bytes)) = some (some [(.int .i64 0)], 1, 8) := by kernel_rfl
theorem kflaw13b_20 : elB Try.prog 27 1 = true := by kernel_rfl
theorem law_of {P : Program} {f : FuncId} {args : List Value} {w : World} (h : Ret P f args w (fun v w' => v = .bool true ∧ Below w.heap.size w w')) : Calls P f args.toArray w fun e w' => e = .returned (.bool true) ∧ Below w.heap.size w w' :=
  Calls.mono h fun e w' ⟨v, he, hv, hb⟩ => ⟨by rw [he, hv], hb⟩
theorem put_got13 {a h : Int} {zs zb : List Int} (hc : (dirS a h zs).2 = 0) : dgS ((dirS a h zs).1 ++ zb) = (a, h, zs, 0) ∧ baseOf ((dirS a h zs).1 ++ zb) = (sizS a h).1 ∧ ((dirS a h zs).1.length : Int) = (sizS a h).1 ∧ (sizS a h).1 = 13 + 8 * tilN a h ∧ okL zs ∧ zs.length ≤ 4096 := by
  obtain ⟨hb, hn, ho, hd⟩ := dirS_zero hc
  have htb := tilN_bd hb
  rw [hd, sizS_fst hb]
  obtain ⟨h1, h2⟩ := put_get (bh := zb) hb hn ho
  refine ⟨h1, h2, ?_, rfl, ho, by omega⟩
  simp only [List.length_append, headB_len, entB_len]; omega

theorem get_back {a h : Int} (A : Option Addr) (m cap : Nat) (zs zb : List Int) (w : World) {A2 : Option Addr} {n2 c2 : Nat} (hr : Rd w A2 (vi .u8 (dirS a h zs).1 ++ vi .u8 zb)) (hlen : ((dirS a h zs).1 ++ zb).length = n2) (hcp : n2 ≤ c2) (hBb : Byt zb) (hlb : zb.length ≤ 100) (hm : zs.length ≤ 5000) (hc : (dirS a h zs).2 = 0) :
    Ret Try.prog 29 [.slice A2 n2 c2] w (fun v w' => ∃ A' cap', v = .tuple #[.int .i64 a, .int .i64 h, .slice A' zs.length cap', .int .i64 0] ∧ HS w w' [.row A' zs.length cap' (vi .i64 (entF (sizS a h).1 zs)) 48 2]) := by
  have hl := dirS_len (w := a) (h := h) (l := zs)
  have h1 := dirGet_any A2 n2 c2 ((dirS a h zs).1 ++ zb) w (by rw [vi_app]; exact hr) hlen (by rw [List.length_append] at hlen; omega) hcp (dirS_byt.app hBb)
  obtain ⟨g1, g2, _⟩ := put_got13 (zb := zb) hc
  unfold DirGetR at h1
  rw [g1, g2] at h1
  exact h1

set_option maxRecDepth 100000 in
theorem DirPuts_any (a h : Int) (A : Option Addr) (m cap : Nat) (zs : List Int) (Ab : Option Addr) (mb cb : Nat) (zb : List Int) (w : World) (ha : -9223372036854775808 ≤ a ∧ a ≤ 9223372036854775807) (hh : -9223372036854775808 ≤ h ∧ h ≤ 9223372036854775807) (hz : Rd w A (vi .i64 zs)) (hl : zs.length = m) (hb : Rd w Ab (vi .u8 zb)) (hlb : zb.length = mb) (hBb : Byt zb) :
    Ret Try.prog 7 [.int .i64 a, .int .i64 h, .slice A m cap, .slice Ab mb cb] w (fun v w' => v = .bool true ∧ Below w.heap.size w w') := by
  refine ret_enter Try.func7 rfl rfl rfl ?_
  have H0 := HS.start w
  refine cw_seq ?_
  refine cw_reg ?_
  refine ry (y_asg rfl rfl) rfl rfl ?_
  refine reg_nil ?_
  refine fn_next ?_
  refine cw_seq ?_
  refine cw_seq ?_
  refine cw_reg ?_
  refine reg_op (op_call (awake13 _) rfl kflaw13b_1 trivial) rfl rfl ?_
  rintro _ w2 ⟨rfl, e1⟩
  have H3 := H0.ext e1
  refine ry (y_not rfl rfl) rfl rfl ?_
  refine reg_nil ?_
  refine fn_next ?_
  refine cw_condf rfl ?_
  refine cw_skip ?_
  refine fn_next ?_
  refine cw_seq ?_
  refine cw_seq ?_
  refine cw_reg ?_
  refine ry (y_mov rfl rfl) rfl rfl ?_
  refine ry (y_len rfl Try.underlying23 rfl) rfl rfl ?_
  refine ry (y_gtr rfl rfl rfl) rfl rfl ?_
  refine ry (y_mov rfl rfl) rfl rfl ?_
  refine rg_splitd (d := 32) rfl (fun h4 => ?_) (fun h4 => ?_)
  · skip
    refine rg_off rfl rfl rfl rfl rfl ?_
    refine rg_off rfl rfl rfl rfl rfl ?_
    refine rg_off rfl rfl rfl rfl rfl ?_
    refine ry (y_pick rfl rfl rfl) rfl rfl ?_
    refine reg_nil ?_
    refine fn_next ?_
    refine cw_condt rfl ?_
    refine cw_seq ?_
    refine cw_reg ?_
    refine ry (y_asg rfl rfl) rfl rfl ?_
    refine reg_nil ?_
    refine fn_next ?_
    refine cw_ret ?_
    refine fn_then_ret ?_
    refine fn_ret1 rfl rfl ?_
    exact ⟨rfl, H3.base⟩
  · skip
    refine rgy (y_mov rfl rfl) rfl rfl rfl rfl ?_
    refine rgy (y_len rfl Try.underlying27 rfl) rfl rfl rfl rfl ?_
    refine rgy (y_gtr rfl rfl rfl) rfl rfl rfl rfl ?_
    refine ry (y_pick rfl rfl rfl) rfl rfl ?_
    refine reg_nil ?_
    refine fn_next ?_
    refine cw_condd rfl (fun h5 => ?_) (fun h5 => ?_)
    · skip
      refine cw_seq ?_
      refine cw_reg ?_
      refine ry (y_asg rfl rfl) rfl rfl ?_
      refine reg_nil ?_
      refine fn_next ?_
      refine cw_ret ?_
      refine fn_then_ret ?_
      refine fn_ret1 rfl rfl ?_
      exact ⟨rfl, H3.base⟩
    · skip
      have hm5 : m ≤ 5000 := by omega
      refine cw_skip ?_
      refine fn_next ?_
      refine cw_seq ?_
      refine cw_reg ?_
      refine ry (y_mov rfl rfl) rfl rfl ?_
      refine ry (y_mov rfl rfl) rfl rfl ?_
      refine ry (y_mov rfl rfl) rfl rfl ?_
      refine reg_op (op_call (dirPut_any a h A m cap zs _ (hz.below H3.base) hl hm5 ha hh) rfl kflaw13b_2 ⟨rfl, rfl, rfl, trivial⟩) rfl rfl ?_
      rintro _ w7 ⟨A9, c10, rfl, k6⟩
      have H8 := H3.call k6
      refine ry (y_mov rfl rfl) rfl rfl ?_
      refine ry (y_ext rfl rfl rfl) rfl rfl ?_
      refine ry (y_ext rfl rfl rfl) rfl rfl ?_
      refine ry (y_asg rfl rfl) rfl rfl ?_
      refine ry (y_asg rfl rfl) rfl rfl ?_
      refine reg_nil ?_
      refine fn_next ?_
      refine cw_seq ?_
      refine cw_reg ?_
      refine ry (y_mov rfl rfl) rfl rfl ?_
      refine ry (y_mov rfl rfl) rfl rfl ?_
      refine ry (y_mov rfl rfl) rfl rfl ?_
      refine reg_op (op_call (refDirPut_any a h A m cap zs _ (hz.below H8.base) hl hm5 ha hh) rfl kflaw13b_3 ⟨rfl, rfl, rfl, trivial⟩) rfl rfl ?_
      rintro _ w12 ⟨A14, c15, rfl, k11⟩
      have H13 := H8.call k11
      refine ry (y_mov rfl rfl) rfl rfl ?_
      refine ry (y_ext rfl rfl rfl) rfl rfl ?_
      refine ry (y_ext rfl rfl rfl) rfl rfl ?_
      refine ry (y_asg rfl rfl) rfl rfl ?_
      refine ry (y_asg rfl rfl) rfl rfl ?_
      refine reg_nil ?_
      refine fn_next ?_
      refine cw_seq ?_
      refine cw_reg ?_
      refine ry (y_mov rfl rfl) rfl rfl ?_
      refine ry (y_mov rfl rfl) rfl rfl ?_
      refine reg_op (op_call (Tiles_any a h _ ha hh) rfl kflaw13b_4 ⟨rfl, rfl, trivial⟩) rfl rfl ?_
      rintro _ w17 ⟨rfl, e16⟩
      have H18 := H13.ext e16
      refine ry (y_mov rfl rfl) rfl rfl ?_
      refine ry (y_ext rfl rfl rfl) rfl rfl ?_
      refine ry (y_ext rfl rfl rfl) rfl rfl ?_
      refine ry (y_asg rfl rfl) rfl rfl ?_
      refine ry (y_asg rfl rfl) rfl rfl ?_
      refine reg_nil ?_
      refine fn_next ?_
      refine cw_seq ?_
      refine cw_reg ?_
      refine ry (y_mov rfl rfl) rfl rfl ?_
      refine ry (y_mov rfl rfl) rfl rfl ?_
      refine reg_op (op_call (refTiles_any a h _ ha hh) rfl kflaw13b_5 ⟨rfl, rfl, trivial⟩) rfl rfl ?_
      rintro _ w20 ⟨rfl, e19⟩
      have H21 := H18.ext e19
      refine ry (y_mov rfl rfl) rfl rfl ?_
      refine ry (y_ext rfl rfl rfl) rfl rfl ?_
      refine ry (y_ext rfl rfl rfl) rfl rfl ?_
      refine ry (y_asg rfl rfl) rfl rfl ?_
      refine ry (y_asg rfl rfl) rfl rfl ?_
      refine reg_nil ?_
      refine fn_next ?_
      refine cw_seq ?_
      refine cw_reg ?_
      refine ry (y_mov rfl rfl) rfl rfl ?_
      refine ry (y_mov rfl rfl) rfl rfl ?_
      refine reg_op (op_call (Size_any a h _ ha hh) rfl kflaw13b_6 ⟨rfl, rfl, trivial⟩) rfl rfl ?_
      rintro _ w23 ⟨rfl, e22⟩
      have H24 := H21.ext e22
      refine ry (y_mov rfl rfl) rfl rfl ?_
      refine ry (y_ext rfl rfl rfl) rfl rfl ?_
      refine ry (y_ext rfl rfl rfl) rfl rfl ?_
      refine ry (y_asg rfl rfl) rfl rfl ?_
      refine ry (y_asg rfl rfl) rfl rfl ?_
      refine reg_nil ?_
      refine fn_next ?_
      refine cw_seq ?_
      refine cw_reg ?_
      refine ry (y_mov rfl rfl) rfl rfl ?_
      refine ry (y_mov rfl rfl) rfl rfl ?_
      refine reg_op (op_call (refSize_any a h _ ha hh) rfl kflaw13b_7 ⟨rfl, rfl, trivial⟩) rfl rfl ?_
      rintro _ w26 ⟨rfl, e25⟩
      have H27 := H24.ext e25
      refine ry (y_mov rfl rfl) rfl rfl ?_
      refine ry (y_ext rfl rfl rfl) rfl rfl ?_
      refine ry (y_ext rfl rfl rfl) rfl rfl ?_
      refine ry (y_asg rfl rfl) rfl rfl ?_
      refine ry (y_asg rfl rfl) rfl rfl ?_
      refine reg_nil ?_
      refine fn_next ?_
      refine cw_seq ?_
      refine cw_seq ?_
      refine cw_reg ?_
      refine ry (y_mov rfl rfl) rfl rfl ?_
      refine ry (y_str rfl Try.underlying27 Try.underlying5 Try.underlying9 rfl (H27.rd (i := 1) rfl) (rfl)) rfl rfl ?_
      refine ry (y_mov rfl rfl) rfl rfl ?_
      refine ry (y_str rfl Try.underlying27 Try.underlying5 Try.underlying9 rfl (H27.rd (i := 0) rfl) (rfl)) rfl rfl ?_
      refine ry (y_strne rfl rfl rfl (dirS_byt) (dirS_byt)) rfl rfl ?_
      refine ry (y_mov rfl rfl) rfl rfl ?_
      refine rg_splitd (d := 80) rfl (fun h28 => ?_) (fun h28 => ?_)
      · exact absurd rfl h28
      · skip
        refine rgy (y_mov rfl rfl) rfl rfl rfl rfl ?_
        refine rgy (y_mov rfl rfl) rfl rfl rfl rfl ?_
        refine rgy (y_neq rfl rfl rfl) rfl rfl rfl rfl ?_
        refine ry (y_pick rfl rfl rfl) rfl rfl ?_
        refine ry (y_mov rfl rfl) rfl rfl ?_
        refine rg_splitd (d := 85) rfl (fun h29 => ?_) (fun h29 => ?_)
        · exact absurd rfl h29
        · skip
          refine rgy (y_mov rfl rfl) rfl rfl rfl rfl ?_
          refine rgy (y_mov rfl rfl) rfl rfl rfl rfl ?_
          refine rgy (y_neq rfl rfl rfl) rfl rfl rfl rfl ?_
          refine ry (y_pick rfl rfl rfl) rfl rfl ?_
          refine ry (y_mov rfl rfl) rfl rfl ?_
          refine rg_splitd (d := 90) rfl (fun h30 => ?_) (fun h30 => ?_)
          · exact absurd rfl h30
          · skip
            refine rgy (y_mov rfl rfl) rfl rfl rfl rfl ?_
            refine rgy (y_mov rfl rfl) rfl rfl rfl rfl ?_
            refine rgy (y_neq rfl rfl rfl) rfl rfl rfl rfl ?_
            refine ry (y_pick rfl rfl rfl) rfl rfl ?_
            refine ry (y_mov rfl rfl) rfl rfl ?_
            refine rg_splitd (d := 95) rfl (fun h31 => ?_) (fun h31 => ?_)
            · exact absurd rfl h31
            · skip
              refine rgy (y_mov rfl rfl) rfl rfl rfl rfl ?_
              refine rgy (y_mov rfl rfl) rfl rfl rfl rfl ?_
              refine rgy (y_neq rfl rfl rfl) rfl rfl rfl rfl ?_
              refine ry (y_pick rfl rfl rfl) rfl rfl ?_
              refine ry (y_mov rfl rfl) rfl rfl ?_
              refine rg_splitd (d := 100) rfl (fun h32 => ?_) (fun h32 => ?_)
              · exact absurd rfl h32
              · skip
                refine rgy (y_mov rfl rfl) rfl rfl rfl rfl ?_
                refine rgy (y_mov rfl rfl) rfl rfl rfl rfl ?_
                refine rgy (y_neq rfl rfl rfl) rfl rfl rfl rfl ?_
                refine ry (y_pick rfl rfl rfl) rfl rfl ?_
                refine reg_nil ?_
                refine fn_next ?_
                refine cw_condd rfl (fun h33 => ?_) (fun h33 => ?_)
                · exact absurd rfl h33
                · skip
                  refine cw_skip ?_
                  refine fn_next ?_
                  refine cw_seq ?_
                  refine cw_seq ?_
                  refine cw_reg ?_
                  refine ry (y_mov rfl rfl) rfl rfl ?_
                  refine ry (y_neq rfl rfl rfl) rfl rfl ?_
                  refine reg_nil ?_
                  refine fn_next ?_
                  refine cw_condd rfl (fun hc => ?_) (fun hc => ?_)
                  · skip
                    refine cw_seq ?_
                    refine cw_reg ?_
                    refine ry (y_asg rfl rfl) rfl rfl ?_
                    refine reg_nil ?_
                    refine fn_next ?_
                    refine cw_ret ?_
                    refine fn_then_ret ?_
                    refine fn_ret1 rfl rfl ?_
                    exact ⟨rfl, H27.base⟩
                  · skip
                    have hc0 := Classical.not_not.1 hc
                    obtain ⟨_, _, g3, g4, g5, g6⟩ := put_got13 (zb := zb) hc0
                    have hpl := dirS_len (w := a) (h := h) (l := zs)
                    have hlen : ((dirS a h zs).1 ++ zb).length = 0 + (dirS a h zs).1.length + mb := by rw [List.length_append]; omega
                    have hlb : zb.length ≤ 100 := by omega
                    have hmb : zs.length ≤ 5000 := by omega
                    refine cw_skip ?_
                    refine fn_next ?_
                    refine cw_seq ?_
                    refine cw_reg ?_
                    refine reg_op (op_lit (parts := []) (vs := []) (cs := []) H27 rfl Try.underlying27 kflaw13b_8 rfl trivial rfl rfl) rfl rfl ?_
                    rintro _ w36 ⟨b35, rfl, H37⟩
                    have H38 := H37.asrow (m := 0) (size := 1) rfl (by decide)
                    refine ry (y_mov rfl rfl) rfl rfl ?_
                    refine reg_op (op_app (i := 0) H38 rfl rfl rfl rfl (H38.rd (i := 2) rfl) (by rw [vi_len]; omega) (vi_one) Try.underlying27 kflaw13b_9 rfl rfl (by unfold maxLen; omega) (by omega)) rfl rfl ?_
                    rintro _ w41 ⟨A39, c40, rfl, H42⟩
                    refine ry (y_mov rfl rfl) rfl rfl ?_
                    refine reg_op (op_app (i := 0) H42 rfl rfl rfl rfl (hb.below H42.base) (by rw [vi_len]; omega) (vi_one) Try.underlying27 kflaw13b_9 rfl rfl (by unfold maxLen; omega) (by omega)) rfl rfl ?_
                    rintro _ w45 ⟨A43, c44, rfl, H46⟩
                    refine reg_op (op_call (get_back A m cap zs zb _ (H46.rd (i := 0) rfl) hlen (H46.len (i := 0) rfl).2.1 hBb hlb hmb hc0) rfl kflaw13b_10 ⟨rfl, trivial⟩) rfl rfl ?_
                    rintro _ w48 ⟨A50, c51, rfl, k47⟩
                    have H49 := H46.call k47
                    refine ry (y_mov rfl rfl) rfl rfl ?_
                    refine ry (y_ext rfl rfl rfl) rfl rfl ?_
                    refine ry (y_ext rfl rfl rfl) rfl rfl ?_
                    refine ry (y_ext rfl rfl rfl) rfl rfl ?_
                    refine ry (y_ext rfl rfl rfl) rfl rfl ?_
                    refine ry (y_asg rfl rfl) rfl rfl ?_
                    refine ry (y_asg rfl rfl) rfl rfl ?_
                    refine ry (y_asg rfl rfl) rfl rfl ?_
                    refine ry (y_asg rfl rfl) rfl rfl ?_
                    refine reg_nil ?_
                    refine fn_next ?_
                    refine cw_seq ?_
                    refine cw_seq ?_
                    refine cw_reg ?_
                    refine ry (y_mov rfl rfl) rfl rfl ?_
                    refine ry (y_mov rfl rfl) rfl rfl ?_
                    refine ry (y_neq rfl rfl rfl) rfl rfl ?_
                    refine ry (y_mov rfl rfl) rfl rfl ?_
                    refine rg_splitd (d := 121) rfl (fun h52 => ?_) (fun h52 => ?_)
                    · exact absurd rfl h52
                    · skip
                      refine rgy (y_mov rfl rfl) rfl rfl rfl rfl ?_
                      refine rgy (y_mov rfl rfl) rfl rfl rfl rfl ?_
                      refine rgy (y_neq rfl rfl rfl) rfl rfl rfl rfl ?_
                      refine ry (y_pick rfl rfl rfl) rfl rfl ?_
                      refine ry (y_mov rfl rfl) rfl rfl ?_
                      refine rg_splitd (d := 126) rfl (fun h53 => ?_) (fun h53 => ?_)
                      · exact absurd rfl h53
                      · skip
                        refine rgy (y_mov rfl rfl) rfl rfl rfl rfl ?_
                        refine rgy (y_neq rfl rfl rfl) rfl rfl rfl rfl ?_
                        refine ry (y_pick rfl rfl rfl) rfl rfl ?_
                        refine ry (y_mov rfl rfl) rfl rfl ?_
                        refine rg_splitd (d := 130) rfl (fun h54 => ?_) (fun h54 => ?_)
                        · exact absurd rfl h54
                        · skip
                          refine rgy (y_mov rfl rfl) rfl rfl rfl rfl ?_
                          refine rgy (y_len rfl Try.underlying44 rfl) rfl rfl rfl rfl ?_
                          refine rgy (y_mov rfl rfl) rfl rfl rfl rfl ?_
                          refine rgy (y_len rfl Try.underlying23 rfl) rfl rfl rfl rfl ?_
                          refine rgy (y_neq rfl rfl rfl) rfl rfl rfl rfl ?_
                          refine ry (y_pick rfl rfl rfl) rfl rfl ?_
                          refine ry (y_mov rfl rfl) rfl rfl ?_
                          refine rg_splitd (d := 137) rfl (fun h55 => ?_) (fun h55 => ?_)
                          · exfalso; omega
                          · skip
                            refine rgy (y_mov rfl rfl) rfl rfl rfl rfl ?_
                            refine rgy (y_len rfl Try.underlying27 rfl) rfl rfl rfl rfl ?_
                            refine rgy (y_mov rfl rfl) rfl rfl rfl rfl ?_
                            refine rgy (y_neq rfl rfl rfl) rfl rfl rfl rfl ?_
                            refine ry (y_pick rfl rfl rfl) rfl rfl ?_
                            refine reg_nil ?_
                            refine fn_next ?_
                            refine cw_condd rfl (fun h56 => ?_) (fun h56 => ?_)
                            · exfalso; omega
                            · skip
                              refine cw_skip ?_
                              refine fn_next ?_
                              refine cw_seq ?_
                              refine cw_reg ?_
                              refine ry (y_mov rfl rfl) rfl rfl ?_
                              refine ry (y_asg rfl rfl) rfl rfl ?_
                              refine reg_nil ?_
                              refine fn_next ?_
                              refine cw_seq ?_
                              refine cw_seq ?_
                              refine cw_reg ?_
                              refine ry (y_asg rfl rfl) rfl rfl ?_
                              refine reg_nil ?_
                              refine fn_next ?_
                              refine cw_block ?_
                              refine cw_loopJ [8, 25, 26, 144, 145, 146, 147, 148, 149, 150, 151, 152, 153, 154, 155, 156, 157, 158, 159, 160, 161, 162, 163, 164, 165, 166, 167, 168, 169, 170, 171, 172, 173, 174] (fun M wl ml => ∃ (i : Nat), M = [(25, .int .i64 ((sizS a h).1 + sumL (zs.take i))), (26, .int .i64 (i : Int))] ∧ HS w wl [.row A50 zs.length c51 (vi .i64 (entF (sizS a h).1 zs)) 48 2] ∧ (i ≤ zs.length) ∧ ml = zs.length - i) ⟨0, rfl, (H49.pick (m := [_]) [0] rfl (by decide)), Nat.zero_le _, rfl⟩ ⟨si (by simp [sumL]), rfl, trivial⟩ ?_
                              rintro M w57 m59 ⟨i, rfl, H58, hp0, rfl⟩
                              refine cw_seq ?_
                              refine cw_seq ?_
                              refine cw_reg ?_
                              refine ry (y_mov rfl rfl) rfl rfl ?_
                              refine ry (y_mov rfl rfl) rfl rfl ?_
                              refine ry (y_len rfl Try.underlying44 rfl) rfl rfl ?_
                              refine ry (y_lss rfl rfl rfl) rfl rfl ?_
                              refine reg_nil ?_
                              refine fn_next ?_
                              refine cw_condd rfl (fun h60 => ?_) (fun h60 => ?_)
                              · skip
                                have hil : i < zs.length := by omega
                                have hge := ent_get hil (sizS a h).1
                                have hpa := ent_part hil (sizS a h).1
                                have hgz := vi_get (k := .i64) hil
                                have htk := take_succ_nth hil
                                have hx := okL_at g5 hil
                                have hsb := sumL_bd (okL_take g5 i)
                                have htl : (zs.take i).length = i := by rw [List.length_take]; omega
                                have htn : tilN a h ≤ 4096 := (tilN_bd (dirS_zero hc0).1).2
                                have htn0 : 1 ≤ tilN a h := (tilN_bd (dirS_zero hc0).1).1
                                refine cw_skip ?_
                                refine fn_next ?_
                                refine cw_seq ?_
                                refine cw_block ?_
                                refine cw_seq ?_
                                refine cw_seq ?_
                                refine cw_draw H58 [0, 1, 2, 3, 4, 5, 6, 7, 8, 9, 10, 11, 12, 13, 14, 15, 16, 17, 18] [] (fun X HX => HX) (by kernel_rfl) (by kernel_rfl) (by rfl) ?_
                                simp only [pick, List.getElem?_cons_succ, List.getElem?_cons_zero]
                                refine hk_y (fun Y HY => y_mov rfl rfl) rfl rfl ?_
                                refine hk_y (fun Y HY => y_mov rfl rfl) rfl rfl ?_
                                refine hk_y (fun Y HY => y_iar (HY.rd (i := 0) rfl) rfl rfl rfl kflaw13b_11 (rfl) (by omega) (rfl) (hge)) rfl rfl ?_
                                refine hk_y (fun Y HY => y_far (HY.rd (i := 0) rfl) rfl rfl kflaw13b_12 rfl (hge)) rfl rfl ?_
                                refine hk_y (fun Y HY => y_ldr (HY.rd (i := 0) rfl) rfl rfl kflaw13b_13 (hge)) rfl rfl ?_
                                refine hk_y (fun Y HY => y_mov rfl rfl) rfl rfl ?_
                                refine hk_y (fun Y HY => y_neq rfl rfl rfl) rfl rfl ?_
                                refine hk_y (fun Y HY => y_mov rfl rfl) rfl rfl ?_
                                refine hk_splitd tv_all (d := 157) rfl (fun h61 => ?_) (fun h61 => ?_)
                                · exact absurd rfl h61
                                · skip
                                  refine hk_on (qy_yd fun Y HY => y_mov rfl rfl) rfl rfl rfl rfl ?_
                                  refine hk_on (qy_yd fun Y HY => y_mov rfl rfl) rfl rfl rfl rfl ?_
                                  refine hk_on (qy_yd fun Y HY => y_iar (HY.rd (i := 0) rfl) rfl rfl rfl kflaw13b_11 (rfl) (by omega) (rfl) (hge)) rfl rfl rfl rfl ?_
                                  refine hk_on (qy_yd fun Y HY => y_far (HY.rd (i := 0) rfl) rfl rfl kflaw13b_14 rfl (hge)) rfl rfl rfl rfl ?_
                                  refine hk_on (qy_yd fun Y HY => y_ldr (HY.rd (i := 0) rfl) rfl rfl kflaw13b_13 (hpa 1 _ rfl)) rfl rfl rfl rfl ?_
                                  refine hk_on (qy_yd fun Y HY => y_mov rfl rfl) rfl rfl rfl rfl ?_
                                  refine hk_on (qy_yd fun Y HY => y_mov rfl rfl) rfl rfl rfl rfl ?_
                                  refine hk_on (qy_yd fun Y HY => y_iar (hz.below HY.base) rfl rfl rfl kflaw13b_15 (rfl) (by omega) (Nat.mul_one _) (hgz)) rfl rfl rfl rfl ?_
                                  refine hk_on (qy_yd fun Y HY => y_ldr (hz.below HY.base) rfl rfl kflaw13b_13 (hgz)) rfl rfl rfl rfl ?_
                                  refine hk_on (qy_yd fun Y HY => y_neq rfl rfl rfl) rfl rfl rfl rfl ?_
                                  refine hk_y (fun Y HY => y_pick rfl rfl rfl) rfl rfl ?_
                                  refine hk_nil ?_
                                  intro w62 H63
                                  refine tv_nil ?_
                                  refine fn_next ?_
                                  refine cw_condd rfl (fun h64 => ?_) (fun h64 => ?_)
                                  · exact absurd rfl h64
                                  · skip
                                    refine cw_skip ?_
                                    refine fn_next ?_
                                    refine cw_reg ?_
                                    refine ry (y_mov rfl rfl) rfl rfl ?_
                                    refine ry (y_mov rfl rfl) rfl rfl ?_
                                    refine ry (y_mov rfl rfl) rfl rfl ?_
                                    refine ry (y_iar (hz.below H63.base) rfl rfl rfl kflaw13b_15 (rfl) (by omega) (Nat.mul_one _) (hgz)) rfl rfl ?_
                                    refine ry (y_ldr (hz.below H63.base) rfl rfl kflaw13b_13 (hgz)) rfl rfl ?_
                                    refine ry (y_add rfl rfl rfl (wi (by omega))) rfl rfl ?_
                                    refine ry (y_asg rfl rfl) rfl rfl ?_
                                    refine reg_nil ?_
                                    refine fn_block ?_
                                    refine fn_next ?_
                                    refine cw_reg ?_
                                    refine ry (y_mov rfl rfl) rfl rfl ?_
                                    refine ry (y_add rfl rfl rfl (wi (by omega))) rfl rfl ?_
                                    refine ry (y_asg rfl rfl) rfl rfl ?_
                                    refine reg_nil ?_
                                    refine fn_roundJ ⟨i + 1, rfl, H63, by omega, rfl⟩ ⟨si (by rw [htk, sumL_snoc]; omega), rfl, trivial⟩ (by omega) (by repeat (first | exact kp_refl | refine kp_app rfl rfl ?_ | refine kp_cons rfl ?_)) rfl
                              · skip
                                refine cw_exit ?_
                                refine fn_then_exit (fn_then_exit (fn_block_exit ?_))
                                refine fn_next ?_
                                refine cw_seq ?_
                                refine cw_reg ?_
                                refine ry (y_asg rfl rfl) rfl rfl ?_
                                refine reg_nil ?_
                                refine fn_next ?_
                                refine cw_ret ?_
                                refine fn_ret1 rfl rfl ?_
                                exact ⟨rfl, H58.base⟩

theorem dirPuts_walk (a h : Int) (zs : List Int) (A : Option Addr) (m cap : Nat) (zb : List Int) (Ab : Option Addr) (mb cb : Nat) (W : World) (ha : -9223372036854775808 ≤ a ∧ a ≤ 9223372036854775807) (hh : -9223372036854775808 ≤ h ∧ h ≤ 9223372036854775807) (hz : Ints .i64 W A m zs) (h1 : m ≤ cap) (h2 : cap ≤ maxLen) (_hZ : ∀ z ∈ zs, -9223372036854775808 ≤ z ∧ z ≤ 9223372036854775807) (hb : Ints .u8 W Ab mb zb) (h3 : mb ≤ cb) (h4 : cb ≤ maxLen) (hBb : ∀ z ∈ zb, 0 ≤ z ∧ z ≤ 255) :
    Calls Try.prog 7 #[.int .i64 a, .int .i64 h, .slice A m cap, .slice Ab mb cb] W fun e W' => e = .returned (.bool true) ∧ Below W.heap.size W W' :=
  law_of (DirPuts_any a h A m cap zs Ab mb cb zb W ha hh (Rd.of_ints hz) hz.len (Rd.of_ints hb) hb.len (fun z hz => by have := hBb z hz; omega))

theorem dgS_len (zs : List Int) : (dgS zs).2.2.1.length ≤ 5000 := by
  by_cases hc : (dgS zs).2.2.2 = 0
  · obtain ⟨_, _, h3, _, _, _, h⟩ := dgS_zero hc
    have := tilN_bd h3
    rw [h, lensOf_len]
    unfold nOf; omega
  · have : (dgS zs).2.2.1 = [] := by
      unfold dgS at *
      split at hc
      · rename_i h; rw [if_pos h]
      · rename_i h; rw [if_neg h]
        split at hc
        · rename_i h; rw [if_pos h]
        · rename_i h; rw [if_neg h]
          split at hc
          · rename_i h; rw [if_pos h]
          · rename_i h; rw [if_neg h]
            split at hc
            · rename_i h; rw [if_pos h]
            · rename_i h; rw [if_neg h]
              split at hc
              · rename_i h; rw [if_pos h]
              · rename_i h; rw [if_neg h]
                split at hc
                · exact absurd rfl hc
                · rename_i h; rw [if_neg h]
    rw [this]; simp

theorem put_back {zs : List Int} (hB : Byt zs) (hc : (dgS zs).2.2.2 = 0) (hg : dgS zs = (wOf zs, hOf zs, lensOf zs (nOf zs), 0)) (A : Option Addr) (cap : Nat) (w : World) {n : Nat} (hn : n = nOf zs) (hr : Rd w A (vi .i64 ((lensOf zs (nOf zs)).take n))) :
    Ret Try.prog 23 [.int .i64 (dgS zs).1, .int .i64 (dgS zs).2.1, .slice A n cap] w (fun v w' => ∃ A' cap', v = .tuple #[.slice A' (13 + 8 * nOf zs) cap', .int .i64 0] ∧ HS w w' [.row A' (13 + 8 * nOf zs) cap' (vi .u8 (zs.take (13 + 8 * nOf zs))) 5 1]) := by
  subst hn
  rw [List.take_of_length_le (by rw [lensOf_len]; exact Nat.le_refl _)] at hr
  obtain ⟨g1, g2⟩ := get_put hB hc
  have h3 := (dgS_zero hc).2.2.1
  have hb' := h3
  unfold badS at hb'
  have htb := tilN_bd h3
  have h := dirPut_any (wOf zs) (hOf zs) A (nOf zs) cap (lensOf zs (nOf zs)) w hr (lensOf_len _ _) (by unfold nOf; omega) (by omega) (by omega)
  unfold DirPutR at h
  rw [g1] at h
  have hl : (zs.take (13 + 8 * nOf zs)).length = 13 + 8 * nOf zs := by rw [List.length_take]; omega
  simp only [hl] at h
  rw [hg]
  exact h

set_option maxRecDepth 100000 in
theorem DirGets_any (A : Option Addr) (m cap : Nat) (zs : List Int) (w : World) (h : Rd w A (vi .u8 zs)) (hl : zs.length = m) (hcap : m ≤ cap) (hB : Byt zs) :
    Ret Try.prog 8 [.slice A m cap] w (fun v w' => v = .bool true ∧ Below w.heap.size w w') := by
  refine ret_enter Try.func8 rfl rfl rfl ?_
  have H0 := HS.start w
  refine cw_seq ?_
  refine cw_reg ?_
  refine ry (y_asg rfl rfl) rfl rfl ?_
  refine reg_nil ?_
  refine fn_next ?_
  refine cw_seq ?_
  refine cw_seq ?_
  refine cw_reg ?_
  refine reg_op (op_call (awake13 _) rfl kflaw13b_1 trivial) rfl rfl ?_
  rintro _ w2 ⟨rfl, e1⟩
  have H3 := H0.ext e1
  refine ry (y_not rfl rfl) rfl rfl ?_
  refine reg_nil ?_
  refine fn_next ?_
  refine cw_condf rfl ?_
  refine cw_skip ?_
  refine fn_next ?_
  refine cw_seq ?_
  refine cw_seq ?_
  refine cw_reg ?_
  refine ry (y_mov rfl rfl) rfl rfl ?_
  refine ry (y_len rfl Try.underlying27 rfl) rfl rfl ?_
  refine ry (y_gtr rfl rfl rfl) rfl rfl ?_
  refine reg_nil ?_
  refine fn_next ?_
  refine cw_condd rfl (fun h4 => ?_) (fun h4 => ?_)
  · skip
    refine cw_seq ?_
    refine cw_reg ?_
    refine ry (y_asg rfl rfl) rfl rfl ?_
    refine reg_nil ?_
    refine fn_next ?_
    refine cw_ret ?_
    refine fn_then_ret ?_
    refine fn_ret1 rfl rfl ?_
    exact ⟨rfl, H3.base⟩
  · skip
    refine cw_skip ?_
    refine fn_next ?_
    refine cw_seq ?_
    refine cw_reg ?_
    refine ry (y_mov rfl rfl) rfl rfl ?_
    refine reg_op (op_call (dirGet_any A m cap zs _ (h.below H3.base) hl (by omega) hcap hB) rfl kflaw13b_10 ⟨rfl, trivial⟩) rfl rfl ?_
    rintro _ w6 ⟨A8, c9, rfl, k5⟩
    have H7 := H3.call k5
    refine ry (y_mov rfl rfl) rfl rfl ?_
    refine ry (y_ext rfl rfl rfl) rfl rfl ?_
    refine ry (y_ext rfl rfl rfl) rfl rfl ?_
    refine ry (y_ext rfl rfl rfl) rfl rfl ?_
    refine ry (y_ext rfl rfl rfl) rfl rfl ?_
    refine ry (y_asg rfl rfl) rfl rfl ?_
    refine ry (y_asg rfl rfl) rfl rfl ?_
    refine ry (y_asg rfl rfl) rfl rfl ?_
    refine ry (y_asg rfl rfl) rfl rfl ?_
    refine reg_nil ?_
    refine fn_next ?_
    refine cw_seq ?_
    refine cw_reg ?_
    refine ry (y_mov rfl rfl) rfl rfl ?_
    refine reg_op (op_call (refDirGet_any A m cap zs _ (h.below H7.base) hl (by omega) hcap hB) rfl kflaw13b_16 ⟨rfl, trivial⟩) rfl rfl ?_
    rintro _ w11 ⟨A13, c14, rfl, k10⟩
    have H12 := H7.call k10
    refine ry (y_mov rfl rfl) rfl rfl ?_
    refine ry (y_ext rfl rfl rfl) rfl rfl ?_
    refine ry (y_ext rfl rfl rfl) rfl rfl ?_
    refine ry (y_ext rfl rfl rfl) rfl rfl ?_
    refine ry (y_ext rfl rfl rfl) rfl rfl ?_
    refine ry (y_asg rfl rfl) rfl rfl ?_
    refine ry (y_asg rfl rfl) rfl rfl ?_
    refine ry (y_asg rfl rfl) rfl rfl ?_
    refine ry (y_asg rfl rfl) rfl rfl ?_
    refine reg_nil ?_
    refine fn_next ?_
    refine cw_seq ?_
    refine cw_seq ?_
    refine cw_reg ?_
    refine ry (y_mov rfl rfl) rfl rfl ?_
    refine ry (y_mov rfl rfl) rfl rfl ?_
    refine ry (y_neq rfl rfl rfl) rfl rfl ?_
    refine ry (y_mov rfl rfl) rfl rfl ?_
    refine rg_splitd (d := 37) rfl (fun h15 => ?_) (fun h15 => ?_)
    · exact absurd rfl h15
    · skip
      refine rgy (y_mov rfl rfl) rfl rfl rfl rfl ?_
      refine rgy (y_mov rfl rfl) rfl rfl rfl rfl ?_
      refine rgy (y_neq rfl rfl rfl) rfl rfl rfl rfl ?_
      refine ry (y_pick rfl rfl rfl) rfl rfl ?_
      refine ry (y_mov rfl rfl) rfl rfl ?_
      refine rg_splitd (d := 42) rfl (fun h16 => ?_) (fun h16 => ?_)
      · exact absurd rfl h16
      · skip
        refine rgy (y_mov rfl rfl) rfl rfl rfl rfl ?_
        refine rgy (y_mov rfl rfl) rfl rfl rfl rfl ?_
        refine rgy (y_neq rfl rfl rfl) rfl rfl rfl rfl ?_
        refine ry (y_pick rfl rfl rfl) rfl rfl ?_
        refine ry (y_mov rfl rfl) rfl rfl ?_
        refine rg_splitd (d := 47) rfl (fun h17 => ?_) (fun h17 => ?_)
        · exact absurd rfl h17
        · skip
          refine rgy (y_mov rfl rfl) rfl rfl rfl rfl ?_
          refine rgy (y_mov rfl rfl) rfl rfl rfl rfl ?_
          refine rg_on rfl rfl rfl (op_call (Same13 _ _ _ _ _ _ _ (H12.rd (i := 1) rfl) (H12.rd (i := 0) rfl) (by have := dgS_len zs; omega)) rfl kflaw13b_17 ⟨rfl, rfl, trivial⟩) rfl ?_
          rintro _ w19 ⟨rfl, e18⟩
          have H20 := H12.ext e18
          refine rgy (y_not rfl rfl) rfl rfl rfl rfl ?_
          refine ry (y_pick rfl rfl rfl) rfl rfl ?_
          refine reg_nil ?_
          refine fn_next ?_
          refine cw_condf rfl ?_
          refine cw_skip ?_
          refine fn_next ?_
          refine cw_seq ?_
          refine cw_seq ?_
          refine cw_reg ?_
          refine ry (y_mov rfl rfl) rfl rfl ?_
          refine ry (y_neq rfl rfl rfl) rfl rfl ?_
          refine reg_nil ?_
          refine fn_next ?_
          refine cw_condd rfl (fun hc => ?_) (fun hc => ?_)
          · skip
            refine cw_seq ?_
            refine cw_reg ?_
            refine ry (y_asg rfl rfl) rfl rfl ?_
            refine reg_nil ?_
            refine fn_next ?_
            refine cw_ret ?_
            refine fn_then_ret ?_
            refine fn_ret1 rfl rfl ?_
            exact ⟨rfl, H20.base⟩
          · skip
            have hc0 := Classical.not_not.1 hc
            obtain ⟨_, _, h3, _, _, _, hg⟩ := dgS_zero hc0
            obtain ⟨g1, g2⟩ := get_put hB hc0
            have hlg : (dgS zs).2.2.1.length = nOf zs := by rw [hg, lensOf_len]
            refine cw_skip ?_
            refine fn_next ?_
            refine cw_seq ?_
            refine cw_reg ?_
            refine reg_op (op_lit (parts := []) (vs := []) (cs := []) H20 rfl Try.underlying23 kflaw13b_18 rfl trivial rfl rfl) rfl rfl ?_
            rintro _ w23 ⟨b22, rfl, H24⟩
            have H25 := H24.asrow (m := 0) (size := 1) rfl (by decide)
            refine ry (y_asg rfl rfl) rfl rfl ?_
            refine reg_nil ?_
            refine fn_next ?_
            refine cw_seq ?_
            refine cw_seq ?_
            refine cw_reg ?_
            refine ry (y_asg rfl rfl) rfl rfl ?_
            refine reg_nil ?_
            refine fn_next ?_
            refine cw_block ?_
            have H26 := H25
            rw [hg] at H26
            simp only [lensOf_len] at H26
            refine cw_loopJ [11, 12, 56, 57, 58, 59, 60, 61, 62, 63, 64, 65, 66, 67, 68, 69] (fun M wl ml => ∃ (i : Nat) (A' : Option Addr) (cap' : Nat), M = [(11, .slice A' i cap'), (12, .int .i64 (i : Int))] ∧ HS w wl [.row A' i cap' (vi .i64 ((lensOf zs (nOf zs)).take i)) 2 1, .row A8 (nOf zs) c9 (vi .i64 (entF (baseOf zs) (lensOf zs (nOf zs)))) 48 2] ∧ (i ≤ nOf zs) ∧ ml = nOf zs - i) ⟨0, _, _, rfl, (H26.pick (m := [_, _]) [0, 2] rfl (by decide)), Nat.zero_le _, rfl⟩ ⟨rfl, rfl, trivial⟩ ?_
            rintro M w27 m29 ⟨i, A', cap', rfl, H28, hp0, rfl⟩
            refine cw_seq ?_
            refine cw_seq ?_
            refine cw_reg ?_
            refine ry (y_mov rfl rfl) rfl rfl ?_
            refine ry (y_mov rfl rfl) rfl rfl ?_
            refine ry (y_len rfl Try.underlying44 rfl) rfl rfl ?_
            refine ry (y_lss rfl rfl rfl) rfl rfl ?_
            refine reg_nil ?_
            refine fn_next ?_
            refine cw_condd rfl (fun h30 => ?_) (fun h30 => ?_)
            · skip
              have hil : i < (lensOf zs (nOf zs)).length := by rw [lensOf_len]; omega
              have hge := ent_get hil (baseOf zs)
              have hpa := ent_part hil (baseOf zs)
              have htk := take_succ_nth hil
              refine cw_skip ?_
              refine fn_next ?_
              refine cw_seq ?_
              refine cw_block ?_
              refine cw_reg ?_
              refine ry (y_mov rfl rfl) rfl rfl ?_
              refine ry (y_mov rfl rfl) rfl rfl ?_
              refine ry (y_mov rfl rfl) rfl rfl ?_
              refine ry (y_iar (H28.rd (i := 1) rfl) rfl rfl rfl kflaw13b_11 (rfl) (by omega) (rfl) (hge)) rfl rfl ?_
              refine ry (y_far (H28.rd (i := 1) rfl) rfl rfl kflaw13b_14 rfl (hge)) rfl rfl ?_
              refine ry (y_ldr (H28.rd (i := 1) rfl) rfl rfl kflaw13b_13 (hpa 1 _ rfl)) rfl rfl ?_
              refine reg_op (op_lit (parts := [(0, _)]) (vs := [(0, _)]) (cs := [.int _ _]) H28 rfl Try.underlying23 kflaw13b_18 rfl ⟨rfl, trivial⟩ rfl rfl) rfl rfl ?_
              rintro _ w32 ⟨b31, rfl, H33⟩
              have H34 := H33.asrow (m := 1) (size := 1) rfl (by decide)
              refine reg_op (op_app (i := 1) H34 rfl rfl rfl rfl (H34.rd (i := 0) rfl) (rfl) (rfl) Try.underlying23 kflaw13b_19 rfl rfl (by unfold maxLen; omega) (by omega)) rfl rfl ?_
              rintro _ w37 ⟨A35, c36, rfl, H38⟩
              refine ry (y_asg rfl rfl) rfl rfl ?_
              refine reg_nil ?_
              refine fn_block ?_
              refine fn_next ?_
              refine cw_reg ?_
              refine ry (y_mov rfl rfl) rfl rfl ?_
              refine ry (y_add rfl rfl rfl (wi (by omega))) rfl rfl ?_
              refine ry (y_asg rfl rfl) rfl rfl ?_
              refine reg_nil ?_
              rw [vi_push, ← htk] at H38
              refine fn_roundJ ⟨i + 1, _, _, rfl, (H38.pick (m := [_, _]) [1, 2] rfl (by decide)), by omega, rfl⟩ ⟨rfl, rfl, trivial⟩ (by omega) (by repeat (first | exact kp_refl | refine kp_app rfl rfl ?_ | refine kp_cons rfl ?_)) rfl
            · skip
              have hin2 : i = nOf zs := by omega
              have hll : (zs.take (13 + 8 * nOf zs)).length = 13 + 8 * nOf zs := by rw [List.length_take]; omega
              have hsub : Rd w (subA A cap 0 1) (vi .u8 (zs.take (13 + 8 * nOf zs))) := by
                have := Rd.slice (lo := 0) (hi := 13 + 8 * nOf zs) (size := 1) (cap := cap) h (by omega) (by omega)
                simp only [Nat.mul_one, Nat.zero_mul, List.drop_zero, vi_take] at this
                exact this
              refine cw_exit ?_
              refine fn_then_exit (fn_then_exit (fn_block_exit ?_))
              refine fn_next ?_
              refine cw_seq ?_
              refine cw_reg ?_
              refine ry (y_mov rfl rfl) rfl rfl ?_
              refine ry (y_mov rfl rfl) rfl rfl ?_
              refine ry (y_mov rfl rfl) rfl rfl ?_
              refine reg_op (op_call (put_back hB hc0 hg _ _ _ hin2 (H28.rd (i := 0) rfl)) rfl kflaw13b_2 ⟨rfl, rfl, rfl, trivial⟩) rfl rfl ?_
              rintro _ w40 ⟨A42, c43, rfl, k39⟩
              have H41 := H28.call k39
              refine ry (y_mov rfl rfl) rfl rfl ?_
              refine ry (y_ext rfl rfl rfl) rfl rfl ?_
              refine ry (y_ext rfl rfl rfl) rfl rfl ?_
              refine ry (y_asg rfl rfl) rfl rfl ?_
              refine ry (y_asg rfl rfl) rfl rfl ?_
              refine reg_nil ?_
              refine fn_next ?_
              refine cw_seq ?_
              refine cw_draw H41 [0, 1, 2, 3, 4, 5, 6, 7, 8, 9, 10, 11, 12, 13, 14, 15, 16, 17, 18, 19] [] (fun X HX => HX) (by kernel_rfl) (by kernel_rfl) (by rfl) ?_
              simp only [pick, List.getElem?_cons_succ, List.getElem?_cons_zero]
              refine hk_y (fun Y HY => y_mov rfl rfl) rfl rfl ?_
              refine hk_y (fun Y HY => y_eql rfl rfl rfl) rfl rfl ?_
              refine hk_y (fun Y HY => y_mov rfl rfl) rfl rfl ?_
              refine hk_splitd tv_all (d := 79) rfl (fun h44 => ?_) (fun h44 => ?_)
              · skip
                refine hk_on (qy_yd fun Y HY => y_mov rfl rfl) rfl rfl rfl rfl ?_
                refine hk_on (qy_yd fun Y HY => y_len rfl Try.underlying27 rfl) rfl rfl rfl rfl ?_
                refine hk_on (qy_yd fun Y HY => y_mov rfl rfl) rfl rfl rfl rfl ?_
                refine hk_on (qy_yd fun Y HY => y_len rfl Try.underlying27 rfl) rfl rfl rfl rfl ?_
                refine hk_on (qy_yd fun Y HY => y_leq rfl rfl rfl) rfl rfl rfl rfl ?_
                refine hk_y (fun Y HY => y_pick rfl rfl rfl) rfl rfl ?_
                refine hk_y (fun Y HY => y_mov rfl rfl) rfl rfl ?_
                refine hk_splitd tv_all (d := 86) rfl (fun h45 => ?_) (fun h45 => ?_)
                · skip
                  refine hk_on (qy_yd fun Y HY => y_mov rfl rfl) rfl rfl rfl rfl ?_
                  refine hk_on (qy_yd fun Y HY => y_str rfl Try.underlying27 Try.underlying5 Try.underlying9 rfl (HY.rd (i := 0) rfl) (hll)) rfl rfl rfl rfl ?_
                  refine hk_on (qy_yd fun Y HY => y_mov rfl rfl) rfl rfl rfl rfl ?_
                  refine hk_on (qy_yd fun Y HY => y_mov rfl rfl) rfl rfl rfl rfl ?_
                  refine hk_on (qy_yd fun Y HY => y_len rfl Try.underlying27 rfl) rfl rfl rfl rfl ?_
                  refine hk_on (qy_yd fun Y HY => y_sh (hi := 13 + 8 * nOf zs) rfl rfl rfl kflaw13b_20 (rfl) (by omega)) rfl rfl rfl rfl ?_
                  refine hk_on (qy_yd fun Y HY => y_str rfl Try.underlying27 Try.underlying5 Try.underlying9 rfl (hsub.below HY.base) (hll)) rfl rfl rfl rfl ?_
                  refine hk_on (qy_yd fun Y HY => y_streq rfl rfl rfl (hB.take _) (hB.take _)) rfl rfl rfl rfl ?_
                  refine hk_y (fun Y HY => y_pick rfl rfl rfl) rfl rfl ?_
                  refine hk_y (fun Y HY => y_asg rfl rfl) rfl rfl ?_
                  refine hk_nil ?_
                  intro w46 H47
                  refine tv_nil ?_
                  refine fn_next ?_
                  refine cw_ret ?_
                  refine fn_ret1 rfl rfl ?_
                  exact ⟨by simp, H47.base⟩
                · exfalso; omega
              · exact absurd rfl h44

theorem dirGets_walk (zs : List Int) (A : Option Addr) (m cap : Nat) (W : World) (h : Ints .u8 W A m zs) (h1 : m ≤ cap) (h2 : cap ≤ maxLen) (hB : ∀ z ∈ zs, 0 ≤ z ∧ z ≤ 255) :
    Calls Try.prog 8 #[.slice A m cap] W fun e W' => e = .returned (.bool true) ∧ Below W.heap.size W W' :=
  law_of (DirGets_any A m cap zs W (Rd.of_ints h) h.len h1 (fun z hz => by have := hB z hz; omega))

end Go.Proofs.Ytdaiapghoihagaa
