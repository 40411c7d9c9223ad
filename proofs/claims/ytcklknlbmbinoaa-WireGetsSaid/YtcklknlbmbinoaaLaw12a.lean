/- Layer 12: the laws. -/
import Derived.Test.YtcklknlbmbinoaaWire2
set_option linter.unusedVariables false
set_option linter.unusedSimpArgs false
namespace Go.Proofs.Ytcklknlbmbinoaa
open Go Go.RowKit
theorem kflaw12a_1 : callB Try.prog 33 = true := by kernel_rfl
theorem kflaw12a_2 : callB Try.prog 32 = true := by kernel_rfl
theorem kflaw12a_3 : callB Try.prog 34 = true := by kernel_rfl
theorem kflaw12a_4 : (Try.prog.info? 5).map (fun i => (i.size, i.zero.map Value.cells)) = some (1, some (List.toArray [(.int .u8 0)])) := by kernel_rfl
theorem kflaw12a_5 : (Try.prog.info? 5).map (fun i => (i.zero.map (·.cells.toList), i.size, i.bytes)) = some (some [(.int .u8 0)], 1, 1) := by kernel_rfl
theorem kflaw12a_6 : callB Try.prog 35 = true := by kernel_rfl
theorem kflaw12a_7 : callB Try.prog 36 = true := by kernel_rfl
theorem kflaw12a_8 : elB Try.prog 43 1 = true := by kernel_rfl
theorem putS_zero {zs : List Int} {n u : Int} (h : (putS zs n u).2 = 0) : ∃ k : Nat, 1 ≤ k ∧ k ≤ 8 ∧ n = (k : Int) ∧ u / 256 ^ k = 0 ∧ putS zs n u = (zs ++ dgs u k, 0) := by
  unfold putS at *
  split at h
  · cases h
  · split at h
    · cases h
    · rename_i h1 h2
      refine ⟨n.toNat, by omega, by omega, by omega, Classical.not_not.1 h2, ?_⟩
      rw [if_neg h1, if_neg h2]
theorem dgs_byt (u : Int) (n : Nat) : Byt (dgs u n) := fun z hz => by
  unfold dgs at hz
  obtain ⟨j, _, rfl⟩ := List.mem_map.1 hz
  exact dg_bd u j
theorem Byt.app {a b : List Int} (ha : Byt a) (hb : Byt b) : Byt (a ++ b) := fun z hz => (List.mem_append.1 hz).elim (ha z) (hb z)
theorem putS_byt {zs : List Int} {n u : Int} (h : Byt zs) : Byt (putS zs n u).1 := by
  unfold putS
  split
  · exact fun z hz => by cases hz
  · split
    · exact fun z hz => by cases hz
    · exact h.app (dgs_byt _ _)
theorem putS_len {zs : List Int} {n u : Int} : (putS zs n u).1.length ≤ zs.length + 8 := by
  unfold putS
  split
  · simp
  · split
    · simp
    · rw [List.length_append, dgs_len]; omega
theorem put_got {zs bh : List Int} {n u : Int} (hu : 0 ≤ u) (h : (putS zs n u).2 = 0) : getS ((putS zs n u).1 ++ bh) (zs.length : Int) n = (u, ((putS zs n u).1.length : Int), 0) := by
  obtain ⟨k, h1, h8, rfl, h0, hp⟩ := putS_zero h
  rw [hp]
  simp only
  have hl : (zs ++ dgs u k ++ bh).length = zs.length + k + bh.length := by rw [List.length_append, List.length_append, dgs_len]
  rw [getS_ok h1 h8 (by omega)]
  have e1 : ((zs ++ dgs u k ++ bh).drop zs.length).take k = dgs u k := by
    rw [List.append_assoc, List.drop_left, List.take_left' (dgs_len u k)]
  rw [e1, un_dgs, List.length_append, dgs_len]
  have hp' := pow_pos256 k
  have : u % 256 ^ k = u := Int.emod_eq_of_lt hu (by
    have := Int.emod_add_mul_ediv u (256 ^ k)
    rw [h0, Int.mul_zero] at this
    have := Int.emod_lt_of_pos u hp'
    omega)
  rw [this, Int.natCast_add]
theorem getS_zero {zs : List Int} {a n : Int} (h : (getS zs a n).2.2 = 0) : ∃ b k : Nat, 1 ≤ k ∧ k ≤ 8 ∧ n = (k : Int) ∧ a = (b : Int) ∧ b + k ≤ zs.length ∧ getS zs a n = (un ((zs.drop b).take k), (b : Int) + k, 0) := by
  by_cases h1 : n < 1 ∨ 8 < n ∨ a < 0 ∨ (zs.length : Int) < a
  · rw [getS_arg h1] at h; cases h
  · by_cases h2 : (zs.length : Int) - a < n
    · rw [getS_short h1 h2] at h; cases h
    · refine ⟨a.toNat, n.toNat, by omega, by omega, by omega, by omega, by omega, ?_⟩
      have := getS_ok (zs := zs) (a := a.toNat) (k := n.toNat) (by omega) (by omega) (by omega)
      rw [show ((a.toNat : Nat) : Int) = a by omega, show ((n.toNat : Nat) : Int) = n by omega] at *
      exact this
theorem got_put {zs : List Int} {b k : Nat} (hB : Byt zs) (h1 : 1 ≤ k) (h8 : k ≤ 8) (hl : b + k ≤ zs.length) : putS [] (k : Int) (un ((zs.drop b).take k)) = ((zs.drop b).take k, 0) := by
  have hll : ((zs.drop b).take k).length = k := by rw [List.length_take, List.length_drop]; omega
  have hb := un_bd _ ((hB.drop b).take k)
  rw [hll] at hb
  have hd := dgs_un _ ((hB.drop b).take k)
  rw [hll] at hd
  rw [putS_ok h1 h8 (Int.ediv_eq_zero_of_lt hb.1 hb.2), List.nil_append, hd]
theorem law_of {P : Program} {f : FuncId} {args : List Value} {w : World} (h : Ret P f args w (fun v w' => v = .bool true ∧ Below w.heap.size w w')) : Calls P f args.toArray w fun e w' => e = .returned (.bool true) ∧ Below w.heap.size w w' :=
  Calls.mono h fun e w' ⟨v, he, hv, hb⟩ => ⟨by rw [he, hv], hb⟩

theorem Put_ex (w : World) : Ret Try.prog 33 [.slice none 0 0, .int .i64 3, .int .u64 258] w (fun v w' => ∃ A cap, v = .tuple #[.slice A 3 cap, .int .i64 0] ∧ HS w w' [.row A 3 cap (vi .u8 [2, 1, 0]) 5 1]) := by
  have h := Put_any none 0 0 [] 3 258 w (fun j u hu => by simp [vi] at hu) rfl (by omega) (by omega)
  unfold PutR at h
  have hp : putS [] 3 258 = ([2, 1, 0], 0) := by decide
  rw [hp] at h
  exact h

set_option maxRecDepth 100000 in
theorem awake12  (w : World) :
    Ret Try.prog 32 [] w (fun v w' => v = .bool true ∧ Below w.heap.size w w') := by
  refine ret_enter Try.func32 rfl rfl rfl ?_
  have H0 := HS.start w
  refine cw_seq ?_
  refine cw_reg ?_
  refine ry (y_asg rfl rfl) rfl rfl ?_
  refine reg_nil ?_
  refine fn_next ?_
  refine cw_seq ?_
  refine cw_reg ?_
  refine reg_op (op_call (Put_ex _) rfl kflaw12a_1 ⟨rfl, rfl, rfl, trivial⟩) rfl rfl ?_
  rintro _ w2 ⟨A4, c5, rfl, k1⟩
  have H3 := H0.call k1
  refine ry (y_mov rfl rfl) rfl rfl ?_
  refine ry (y_ext rfl rfl rfl) rfl rfl ?_
  refine ry (y_ext rfl rfl rfl) rfl rfl ?_
  refine ry (y_asg rfl rfl) rfl rfl ?_
  refine ry (y_asg rfl rfl) rfl rfl ?_
  refine reg_nil ?_
  refine fn_next ?_
  refine cw_seq ?_
  refine cw_reg ?_
  refine ry (y_mov rfl rfl) rfl rfl ?_
  refine ry (y_eql rfl rfl rfl) rfl rfl ?_
  refine ry (y_mov rfl rfl) rfl rfl ?_
  refine rg_splitd (d := 9) rfl (fun h6 => ?_) (fun h6 => ?_)
  · skip
    refine rgy (y_mov rfl rfl) rfl rfl rfl rfl ?_
    refine rgy (y_str rfl Try.underlying43 Try.underlying5 Try.underlying9 rfl (H3.rd (i := 0) rfl) (rfl)) rfl rfl rfl rfl ?_
    refine rgy (y_streq (b := [2, 1, 0]) rfl rfl rfl (by unfold Byt; decide) (by unfold Byt; decide)) rfl rfl rfl rfl ?_
    refine ry (y_pick rfl rfl rfl) rfl rfl ?_
    refine ry (y_asg rfl rfl) rfl rfl ?_
    refine reg_nil ?_
    refine fn_next ?_
    refine cw_ret ?_
    refine fn_ret1 rfl rfl ?_
    exact ⟨rfl, H3.base⟩
  · exact absurd rfl h6

set_option maxRecDepth 100000 in
theorem WirePuts_any (A : Option Addr) (m cap : Nat) (zs : List Int) (n u : Int) (Ab : Option Addr) (mb cb : Nat) (zb : List Int) (w : World) (h : Rd w A (vi .u8 zs)) (hl : zs.length = m) (hB : Byt zs) (hn : -9223372036854775808 ≤ n ∧ n ≤ 9223372036854775807) (hu : 0 ≤ u ∧ u < 18446744073709551616) (hb : Rd w Ab (vi .u8 zb)) (hlb : zb.length = mb) (hBb : Byt zb) :
    Ret Try.prog 6 [.slice A m cap, .int .i64 n, .int .u64 u, .slice Ab mb cb] w (fun v w' => v = .bool true ∧ Below w.heap.size w w') := by
  refine ret_enter Try.func6 rfl rfl rfl ?_
  have H0 := HS.start w
  refine cw_seq ?_
  refine cw_reg ?_
  refine ry (y_asg rfl rfl) rfl rfl ?_
  refine reg_nil ?_
  refine fn_next ?_
  refine cw_seq ?_
  refine cw_seq ?_
  refine cw_reg ?_
  refine reg_op (op_call (awake12 _) rfl kflaw12a_2 trivial) rfl rfl ?_
  rintro _ w2 ⟨rfl, e1⟩
  have H3 := H0.ext e1
  refine ry (y_not rfl rfl) rfl rfl ?_
  refine reg_nil ?_
  refine fn_next ?_
  refine cw_condf rfl ?_
  refine cw_skip ?_
  refine fn_next ?_
  refine cw_seq ?_
  refine cw_seq ?_
  refine cw_reg ?_
  refine ry (y_mov rfl rfl) rfl rfl ?_
  refine ry (y_len rfl Try.underlying43 rfl) rfl rfl ?_
  refine ry (y_gtr rfl rfl rfl) rfl rfl ?_
  refine ry (y_mov rfl rfl) rfl rfl ?_
  refine rg_splitd (d := 21) rfl (fun h4 => ?_) (fun h4 => ?_)
  · skip
    refine rg_off rfl rfl rfl rfl rfl ?_
    refine rg_off rfl rfl rfl rfl rfl ?_
    refine rg_off rfl rfl rfl rfl rfl ?_
    refine ry (y_pick rfl rfl rfl) rfl rfl ?_
    refine reg_nil ?_
    refine fn_next ?_
    refine cw_condt rfl ?_
    refine cw_seq ?_
    refine cw_reg ?_
    refine ry (y_asg rfl rfl) rfl rfl ?_
    refine reg_nil ?_
    refine fn_next ?_
    refine cw_ret ?_
    refine fn_then_ret ?_
    refine fn_ret1 rfl rfl ?_
    exact ⟨rfl, H3.base⟩
  · skip
    refine rgy (y_mov rfl rfl) rfl rfl rfl rfl ?_
    refine rgy (y_len rfl Try.underlying43 rfl) rfl rfl rfl rfl ?_
    refine rgy (y_gtr rfl rfl rfl) rfl rfl rfl rfl ?_
    refine ry (y_pick rfl rfl rfl) rfl rfl ?_
    refine reg_nil ?_
    refine fn_next ?_
    refine cw_condd rfl (fun h5 => ?_) (fun h5 => ?_)
    · skip
      refine cw_seq ?_
      refine cw_reg ?_
      refine ry (y_asg rfl rfl) rfl rfl ?_
      refine reg_nil ?_
      refine fn_next ?_
      refine cw_ret ?_
      refine fn_then_ret ?_
      refine fn_ret1 rfl rfl ?_
      exact ⟨rfl, H3.base⟩
    · skip
      refine cw_skip ?_
      refine fn_next ?_
      refine cw_seq ?_
      refine cw_reg ?_
      refine ry (y_mov rfl rfl) rfl rfl ?_
      refine ry (y_mov rfl rfl) rfl rfl ?_
      refine ry (y_mov rfl rfl) rfl rfl ?_
      refine reg_op (op_call (Put_any A m cap zs n u _ (h.below H3.base) hl (by omega) hu) rfl kflaw12a_1 ⟨rfl, rfl, rfl, trivial⟩) rfl rfl ?_
      rintro _ w7 ⟨A9, c10, rfl, k6⟩
      have H8 := H3.call k6
      refine ry (y_mov rfl rfl) rfl rfl ?_
      refine ry (y_ext rfl rfl rfl) rfl rfl ?_
      refine ry (y_ext rfl rfl rfl) rfl rfl ?_
      refine ry (y_asg rfl rfl) rfl rfl ?_
      refine ry (y_asg rfl rfl) rfl rfl ?_
      refine reg_nil ?_
      refine fn_next ?_
      refine cw_seq ?_
      refine cw_reg ?_
      refine ry (y_mov rfl rfl) rfl rfl ?_
      refine ry (y_mov rfl rfl) rfl rfl ?_
      refine ry (y_mov rfl rfl) rfl rfl ?_
      refine reg_op (op_call (refPut_any A m cap zs n u _ (h.below H8.base) hl (by omega) hu) rfl kflaw12a_3 ⟨rfl, rfl, rfl, trivial⟩) rfl rfl ?_
      rintro _ w12 ⟨A14, c15, rfl, k11⟩
      have H13 := H8.call k11
      refine ry (y_mov rfl rfl) rfl rfl ?_
      refine ry (y_ext rfl rfl rfl) rfl rfl ?_
      refine ry (y_ext rfl rfl rfl) rfl rfl ?_
      refine ry (y_asg rfl rfl) rfl rfl ?_
      refine ry (y_asg rfl rfl) rfl rfl ?_
      refine reg_nil ?_
      refine fn_next ?_
      refine cw_seq ?_
      refine cw_seq ?_
      refine cw_reg ?_
      refine ry (y_mov rfl rfl) rfl rfl ?_
      refine ry (y_str rfl Try.underlying43 Try.underlying5 Try.underlying9 rfl (H13.rd (i := 1) rfl) (rfl)) rfl rfl ?_
      refine ry (y_mov rfl rfl) rfl rfl ?_
      refine ry (y_str rfl Try.underlying43 Try.underlying5 Try.underlying9 rfl (H13.rd (i := 0) rfl) (rfl)) rfl rfl ?_
      refine ry (y_strne rfl rfl rfl (putS_byt hB) (putS_byt hB)) rfl rfl ?_
      refine ry (y_mov rfl rfl) rfl rfl ?_
      refine rg_splitd (d := 45) rfl (fun h16 => ?_) (fun h16 => ?_)
      · exact absurd rfl h16
      · skip
        refine rgy (y_mov rfl rfl) rfl rfl rfl rfl ?_
        refine rgy (y_mov rfl rfl) rfl rfl rfl rfl ?_
        refine rgy (y_neq rfl rfl rfl) rfl rfl rfl rfl ?_
        refine ry (y_pick rfl rfl rfl) rfl rfl ?_
        refine reg_nil ?_
        refine fn_next ?_
        refine cw_condd rfl (fun h17 => ?_) (fun h17 => ?_)
        · exact absurd rfl h17
        · skip
          refine cw_skip ?_
          refine fn_next ?_
          refine cw_seq ?_
          refine cw_seq ?_
          refine cw_reg ?_
          refine ry (y_mov rfl rfl) rfl rfl ?_
          refine ry (y_neq rfl rfl rfl) rfl rfl ?_
          refine reg_nil ?_
          refine fn_next ?_
          refine cw_condd rfl (fun hc => ?_) (fun hc => ?_)
          · skip
            refine cw_seq ?_
            refine cw_reg ?_
            refine ry (y_asg rfl rfl) rfl rfl ?_
            refine reg_nil ?_
            refine fn_next ?_
            refine cw_ret ?_
            refine fn_then_ret ?_
            refine fn_ret1 rfl rfl ?_
            exact ⟨rfl, H13.base⟩
          · skip
            have hc0 := Classical.not_not.1 hc
            have hgot := put_got (bh := zb) hu.1 hc0
            rw [hl] at hgot
            have hpl := putS_len (zs := zs) (n := n) (u := u)
            refine cw_skip ?_
            refine fn_next ?_
            refine cw_seq ?_
            refine cw_reg ?_
            refine reg_op (op_lit (parts := []) (vs := []) (cs := []) H13 rfl Try.underlying43 kflaw12a_4 rfl trivial rfl rfl) rfl rfl ?_
            rintro _ w20 ⟨b19, rfl, H21⟩
            have H22 := H21.asrow (m := 0) (size := 1) rfl (by decide)
            refine ry (y_mov rfl rfl) rfl rfl ?_
            refine reg_op (op_app (i := 0) H22 rfl rfl rfl rfl (H22.rd (i := 2) rfl) (by rw [vi_len]; omega) (vi_one) Try.underlying43 kflaw12a_5 rfl rfl (by unfold maxLen; omega) (by omega)) rfl rfl ?_
            rintro _ w25 ⟨A23, c24, rfl, H26⟩
            refine ry (y_mov rfl rfl) rfl rfl ?_
            refine reg_op (op_app (i := 0) H26 rfl rfl rfl rfl (hb.below H26.base) (by rw [vi_len]; omega) (vi_one) Try.underlying43 kflaw12a_5 rfl rfl (by unfold maxLen; omega) (by omega)) rfl rfl ?_
            rintro _ w29 ⟨A27, c28, rfl, H30⟩
            refine ry (y_mov rfl rfl) rfl rfl ?_
            refine ry (y_len rfl Try.underlying43 rfl) rfl rfl ?_
            refine ry (y_mov rfl rfl) rfl rfl ?_
            refine reg_op (op_call (Get_any _ _ _ ((putS zs n u).1 ++ zb) (m : Int) n _ (by rw [vi_app]; exact H30.rd (i := 0) rfl) (by rw [List.length_append]; omega) (by omega) (H30.len (i := 0) rfl).2.1 ((putS_byt hB).app hBb) (by omega) hn) rfl kflaw12a_6 ⟨rfl, rfl, rfl, trivial⟩) rfl rfl ?_
            rintro _ w32 ⟨rfl, e31⟩
            have H33 := H30.ext e31
            refine ry (y_mov rfl rfl) rfl rfl ?_
            refine ry (y_ext rfl rfl rfl) rfl rfl ?_
            refine ry (y_ext rfl rfl rfl) rfl rfl ?_
            refine ry (y_ext rfl rfl rfl) rfl rfl ?_
            refine ry (y_asg rfl rfl) rfl rfl ?_
            refine ry (y_asg rfl rfl) rfl rfl ?_
            refine ry (y_asg rfl rfl) rfl rfl ?_
            refine reg_nil ?_
            refine fn_next ?_
            refine cw_seq ?_
            refine cw_reg ?_
            refine ry (y_mov rfl rfl) rfl rfl ?_
            refine ry (y_mov rfl rfl) rfl rfl ?_
            refine ry (y_eql rfl rfl rfl) rfl rfl ?_
            refine ry (y_mov rfl rfl) rfl rfl ?_
            refine rg_splitd (d := 68) rfl (fun h34 => ?_) (fun h34 => ?_)
            · skip
              refine rgy (y_mov rfl rfl) rfl rfl rfl rfl ?_
              refine rgy (y_mov rfl rfl) rfl rfl rfl rfl ?_
              refine rgy (y_len rfl Try.underlying43 rfl) rfl rfl rfl rfl ?_
              refine rgy (y_eql rfl rfl rfl) rfl rfl rfl rfl ?_
              refine ry (y_pick rfl rfl rfl) rfl rfl ?_
              refine ry (y_mov rfl rfl) rfl rfl ?_
              refine rg_splitd (d := 74) rfl (fun h35 => ?_) (fun h35 => ?_)
              · skip
                refine rgy (y_mov rfl rfl) rfl rfl rfl rfl ?_
                refine rgy (y_eql rfl rfl rfl) rfl rfl rfl rfl ?_
                refine ry (y_pick rfl rfl rfl) rfl rfl ?_
                refine ry (y_asg rfl rfl) rfl rfl ?_
                refine reg_nil ?_
                refine fn_next ?_
                refine cw_ret ?_
                refine fn_ret1 rfl rfl ?_
                exact ⟨by rw [hgot]; simp, H33.base⟩
              · exact absurd (by rw [hgot]) h35
            · exact absurd (by rw [hgot]) h34

theorem wirePuts_walk (zs : List Int) (A : Option Addr) (m cap : Nat) (n u : Int) (zb : List Int) (Ab : Option Addr) (mb cb : Nat) (W : World) (h : Ints .u8 W A m zs) (h1 : m ≤ cap) (h2 : cap ≤ maxLen) (hB : ∀ z ∈ zs, 0 ≤ z ∧ z ≤ 255) (hn : -9223372036854775808 ≤ n ∧ n ≤ 9223372036854775807) (hu : 0 ≤ u ∧ u ≤ 18446744073709551615) (hb : Ints .u8 W Ab mb zb) (h3 : mb ≤ cb) (h4 : cb ≤ maxLen) (hBb : ∀ z ∈ zb, 0 ≤ z ∧ z ≤ 255) :
    Calls Try.prog 6 #[.slice A m cap, .int .i64 n, .int .u64 u, .slice Ab mb cb] W fun e W' => e = .returned (.bool true) ∧ Below W.heap.size W W' :=
  law_of (WirePuts_any A m cap zs n u Ab mb cb zb W (Rd.of_ints h) h.len (fun z hz => by have := hB z hz; omega) hn ⟨hu.1, by omega⟩ (Rd.of_ints hb) hb.len (fun z hz => by have := hBb z hz; omega))

theorem Put_back (w : World) {zs : List Int} {a n : Int} {b k : Nat} (hB : Byt zs) (h1 : 1 ≤ k) (h8 : k ≤ 8) (hbk : b + k ≤ zs.length) (hg : getS zs a n = (un ((zs.drop b).take k), (b : Int) + k, 0)) : Ret Try.prog 33 [.slice none 0 0, .int .i64 (k : Int), .int .u64 (getS zs a n).1] w (fun v w' => ∃ A cap, v = .tuple #[.slice A k cap, .int .i64 0] ∧ HS w w' [.row A k cap (vi .u8 ((zs.drop b).take k)) 5 1]) := by
  have hb := un_bd _ ((hB.drop b).take k)
  have hll : ((zs.drop b).take k).length = k := by rw [List.length_take, List.length_drop]; omega
  have hle : (256 : Int) ^ k ≤ 18446744073709551616 := by
    rw [e256]
    have : 2 ^ (8 * k) ≤ 2 ^ 64 := Nat.pow_le_pow_right (by decide) (by omega)
    have : (2 : Nat) ^ 64 = 18446744073709551616 := by decide
    omega
  rw [hll] at hb
  have h := Put_any none 0 0 [] (k : Int) (un ((zs.drop b).take k)) w (fun j u hu => by simp [vi] at hu) rfl (by omega) ⟨hb.1, by omega⟩
  unfold PutR at h
  rw [got_put hB h1 h8 hbk] at h
  simp only [hll] at h
  rw [hg]
  exact h

set_option maxRecDepth 100000 in
theorem WireGets_any (A : Option Addr) (m cap : Nat) (zs : List Int) (a n : Int) (w : World) (h : Rd w A (vi .u8 zs)) (hl : zs.length = m) (hcap : m ≤ cap) (hB : Byt zs) (ha : -9223372036854775808 ≤ a ∧ a ≤ 9223372036854775807) (hn : -9223372036854775808 ≤ n ∧ n ≤ 9223372036854775807) :
    Ret Try.prog 7 [.slice A m cap, .int .i64 a, .int .i64 n] w (fun v w' => v = .bool true ∧ Below w.heap.size w w') := by
  refine ret_enter Try.func7 rfl rfl rfl ?_
  have H0 := HS.start w
  refine cw_seq ?_
  refine cw_reg ?_
  refine ry (y_asg rfl rfl) rfl rfl ?_
  refine reg_nil ?_
  refine fn_next ?_
  refine cw_seq ?_
  refine cw_seq ?_
  refine cw_reg ?_
  refine reg_op (op_call (awake12 _) rfl kflaw12a_2 trivial) rfl rfl ?_
  rintro _ w2 ⟨rfl, e1⟩
  have H3 := H0.ext e1
  refine ry (y_not rfl rfl) rfl rfl ?_
  refine reg_nil ?_
  refine fn_next ?_
  refine cw_condf rfl ?_
  refine cw_skip ?_
  refine fn_next ?_
  refine cw_seq ?_
  refine cw_seq ?_
  refine cw_reg ?_
  refine ry (y_mov rfl rfl) rfl rfl ?_
  refine ry (y_len rfl Try.underlying43 rfl) rfl rfl ?_
  refine ry (y_gtr rfl rfl rfl) rfl rfl ?_
  refine reg_nil ?_
  refine fn_next ?_
  refine cw_condd rfl (fun h4 => ?_) (fun h4 => ?_)
  · skip
    refine cw_seq ?_
    refine cw_reg ?_
    refine ry (y_asg rfl rfl) rfl rfl ?_
    refine reg_nil ?_
    refine fn_next ?_
    refine cw_ret ?_
    refine fn_then_ret ?_
    refine fn_ret1 rfl rfl ?_
    exact ⟨rfl, H3.base⟩
  · skip
    refine cw_skip ?_
    refine fn_next ?_
    refine cw_seq ?_
    refine cw_reg ?_
    refine ry (y_mov rfl rfl) rfl rfl ?_
    refine ry (y_mov rfl rfl) rfl rfl ?_
    refine ry (y_mov rfl rfl) rfl rfl ?_
    refine reg_op (op_call (Get_any A m cap zs a n _ (h.below H3.base) hl (by omega) hcap hB ha hn) rfl kflaw12a_6 ⟨rfl, rfl, rfl, trivial⟩) rfl rfl ?_
    rintro _ w6 ⟨rfl, e5⟩
    have H7 := H3.ext e5
    refine ry (y_mov rfl rfl) rfl rfl ?_
    refine ry (y_ext rfl rfl rfl) rfl rfl ?_
    refine ry (y_ext rfl rfl rfl) rfl rfl ?_
    refine ry (y_ext rfl rfl rfl) rfl rfl ?_
    refine ry (y_asg rfl rfl) rfl rfl ?_
    refine ry (y_asg rfl rfl) rfl rfl ?_
    refine ry (y_asg rfl rfl) rfl rfl ?_
    refine reg_nil ?_
    refine fn_next ?_
    refine cw_seq ?_
    refine cw_reg ?_
    refine ry (y_mov rfl rfl) rfl rfl ?_
    refine ry (y_mov rfl rfl) rfl rfl ?_
    refine ry (y_mov rfl rfl) rfl rfl ?_
    refine reg_op (op_call (refGet_any A m cap zs a n _ (h.below H7.base) hl (by omega) hcap hB ha hn) rfl kflaw12a_7 ⟨rfl, rfl, rfl, trivial⟩) rfl rfl ?_
    rintro _ w9 ⟨rfl, e8⟩
    have H10 := H7.ext e8
    refine ry (y_mov rfl rfl) rfl rfl ?_
    refine ry (y_ext rfl rfl rfl) rfl rfl ?_
    refine ry (y_ext rfl rfl rfl) rfl rfl ?_
    refine ry (y_ext rfl rfl rfl) rfl rfl ?_
    refine ry (y_asg rfl rfl) rfl rfl ?_
    refine ry (y_asg rfl rfl) rfl rfl ?_
    refine ry (y_asg rfl rfl) rfl rfl ?_
    refine reg_nil ?_
    refine fn_next ?_
    refine cw_seq ?_
    refine cw_seq ?_
    refine cw_reg ?_
    refine ry (y_mov rfl rfl) rfl rfl ?_
    refine ry (y_mov rfl rfl) rfl rfl ?_
    refine ry (y_neq rfl rfl rfl) rfl rfl ?_
    refine ry (y_mov rfl rfl) rfl rfl ?_
    refine rg_splitd (d := 39) rfl (fun h11 => ?_) (fun h11 => ?_)
    · exact absurd rfl h11
    · skip
      refine rgy (y_mov rfl rfl) rfl rfl rfl rfl ?_
      refine rgy (y_mov rfl rfl) rfl rfl rfl rfl ?_
      refine rgy (y_neq rfl rfl rfl) rfl rfl rfl rfl ?_
      refine ry (y_pick rfl rfl rfl) rfl rfl ?_
      refine ry (y_mov rfl rfl) rfl rfl ?_
      refine rg_splitd (d := 44) rfl (fun h12 => ?_) (fun h12 => ?_)
      · exact absurd rfl h12
      · skip
        refine rgy (y_mov rfl rfl) rfl rfl rfl rfl ?_
        refine rgy (y_mov rfl rfl) rfl rfl rfl rfl ?_
        refine rgy (y_neq rfl rfl rfl) rfl rfl rfl rfl ?_
        refine ry (y_pick rfl rfl rfl) rfl rfl ?_
        refine reg_nil ?_
        refine fn_next ?_
        refine cw_condd rfl (fun h13 => ?_) (fun h13 => ?_)
        · exact absurd rfl h13
        · skip
          refine cw_skip ?_
          refine fn_next ?_
          refine cw_seq ?_
          refine cw_seq ?_
          refine cw_reg ?_
          refine ry (y_mov rfl rfl) rfl rfl ?_
          refine ry (y_neq rfl rfl rfl) rfl rfl ?_
          refine reg_nil ?_
          refine fn_next ?_
          refine cw_condd rfl (fun hc => ?_) (fun hc => ?_)
          · skip
            refine cw_seq ?_
            refine cw_reg ?_
            refine ry (y_asg rfl rfl) rfl rfl ?_
            refine reg_nil ?_
            refine fn_next ?_
            refine cw_ret ?_
            refine fn_then_ret ?_
            refine fn_ret1 rfl rfl ?_
            exact ⟨rfl, H10.base⟩
          · skip
            have hc0 := Classical.not_not.1 hc
            obtain ⟨b, k, h1, h8, rfl, rfl, hbk, hg⟩ := getS_zero hc0
            have hll : ((zs.drop b).take k).length = k := by rw [List.length_take, List.length_drop]; omega
            have hsub : Rd w (subA A cap b 1) (vi .u8 ((zs.drop b).take k)) := by
              have := Rd.slice (lo := b) (hi := b + k) (size := 1) (cap := cap) h (by omega) (by omega)
              rw [Nat.mul_one, Nat.mul_one, vi_take, vi_drop, List.drop_take, Nat.add_sub_cancel_left] at this
              exact this
            refine cw_skip ?_
            refine fn_next ?_
            refine cw_seq ?_
            refine cw_reg ?_
            refine ry (y_mov rfl rfl) rfl rfl ?_
            refine ry (y_mov rfl rfl) rfl rfl ?_
            refine reg_op (op_call (Put_back _ hB h1 h8 hbk hg) rfl kflaw12a_1 ⟨rfl, rfl, rfl, trivial⟩) rfl rfl ?_
            rintro _ w16 ⟨A18, c19, rfl, k15⟩
            have H17 := H10.call k15
            refine ry (y_mov rfl rfl) rfl rfl ?_
            refine ry (y_ext rfl rfl rfl) rfl rfl ?_
            refine ry (y_ext rfl rfl rfl) rfl rfl ?_
            refine ry (y_asg rfl rfl) rfl rfl ?_
            refine ry (y_asg rfl rfl) rfl rfl ?_
            refine reg_nil ?_
            refine fn_next ?_
            refine cw_seq ?_
            refine cw_draw H17 [0, 1, 2, 3, 4, 5, 6, 7, 8, 9, 10, 11, 12] [] [_] [0] rfl (by decide) (by kernel_rfl) (by kernel_rfl) (by rfl) ?_
            simp only [pick, List.getElem?_cons_succ, List.getElem?_cons_zero]
            refine hk_y (fun Y HY => y_mov rfl rfl) rfl rfl ?_
            refine hk_y (fun Y HY => y_eql rfl rfl rfl) rfl rfl ?_
            refine hk_y (fun Y HY => y_mov rfl rfl) rfl rfl ?_
            refine hk_splitd tv_all (d := 59) rfl (fun h20 => ?_) (fun h20 => ?_)
            · skip
              refine hk_on (qy_yd fun Y HY => y_mov rfl rfl) rfl rfl rfl rfl ?_
              refine hk_on (qy_yd fun Y HY => y_str rfl Try.underlying43 Try.underlying5 Try.underlying9 rfl (HY.rd (i := 0) rfl) (hll)) rfl rfl rfl rfl ?_
              refine hk_on (qy_yd fun Y HY => y_mov rfl rfl) rfl rfl rfl rfl ?_
              refine hk_on (qy_yd fun Y HY => y_mov rfl rfl) rfl rfl rfl rfl ?_
              refine hk_on (qy_yd fun Y HY => y_mov rfl rfl) rfl rfl rfl rfl ?_
              refine hk_on (qy_yd fun Y HY => y_slh (lo := b) (hi := b + k) rfl rfl rfl rfl kflaw12a_8 (rfl) (by rw [hg]; simp) (by omega) (by omega)) rfl rfl rfl rfl ?_
              refine hk_on (qy_yd fun Y HY => y_str rfl Try.underlying43 Try.underlying5 Try.underlying9 rfl (hsub.below HY.base) (by rw [hll]; omega)) rfl rfl rfl rfl ?_
              refine hk_on (qy_yd fun Y HY => y_streq rfl rfl rfl ((hB.drop b).take k) ((hB.drop b).take k)) rfl rfl rfl rfl ?_
              refine hk_y (fun Y HY => y_pick rfl rfl rfl) rfl rfl ?_
              refine hk_y (fun Y HY => y_asg rfl rfl) rfl rfl ?_
              refine hk_nil ?_
              intro w21 H22
              refine tv_nil ?_
              refine fn_next ?_
              refine cw_ret ?_
              refine fn_ret1 rfl rfl ?_
              exact ⟨by simp, H22.base⟩
            · exact absurd rfl h20

theorem wireGets_walk (zs : List Int) (A : Option Addr) (m cap : Nat) (a n : Int) (W : World) (h : Ints .u8 W A m zs) (h1 : m ≤ cap) (h2 : cap ≤ maxLen) (hB : ∀ z ∈ zs, 0 ≤ z ∧ z ≤ 255) (ha : -9223372036854775808 ≤ a ∧ a ≤ 9223372036854775807) (hn : -9223372036854775808 ≤ n ∧ n ≤ 9223372036854775807) :
    Calls Try.prog 7 #[.slice A m cap, .int .i64 a, .int .i64 n] W fun e W' => e = .returned (.bool true) ∧ Below W.heap.size W W' :=
  law_of (WireGets_any A m cap zs a n W (Rd.of_ints h) h.len h1 (fun z hz => by have := hB z hz; omega) ha hn)

end Go.Proofs.Ytcklknlbmbinoaa
