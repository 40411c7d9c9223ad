/- Layer 13: Get, the program's and the reference's. -/
import Derived.Test.YtbnjbgcadkdljaaGreatDoorDir2
set_option linter.unusedVariables false
set_option linter.unusedSimpArgs false
namespace Go.Proofs.YtbnjbgcadkdljaaGreatDoor
open Go Go.RowKit
theorem kfdir3_1 : elB Tryz.prog 22 1 = true := by kernel_rfl
theorem kfdir3_2 : callB Tryz.prog 51 = true := by kernel_rfl
theorem kfdir3_3 : callB Tryz.prog 83 = true := by kernel_rfl
theorem kfdir3_4 : fldB Tryz.prog 97 0 0 = true := by kernel_rfl
theorem kfdir3_5 : oneB Tryz.prog 22 = true := by kernel_rfl
theorem kfdir3_6 : fldB Tryz.prog 97 1 1 = true := by kernel_rfl
theorem kfdir3_7 : oneB Tryz.prog 3 = true := by kernel_rfl
theorem kfdir3_8 : callB Tryz.prog 91 = true := by kernel_rfl
theorem kfdir3_9 : szB Tryz.prog 3 1 = true := by kernel_rfl
def num (zs : List Int) (p k : Nat) : Int := un ((zs.drop p).take k)
theorem num_bd {zs : List Int} (h : Byt zs) (p : Nat) {k : Nat} (hk : k ≤ 4) : 0 ≤ num zs p k ∧ num zs p k < 4294967296 := by
  have h1 := un_bd _ ((h.drop p).take k)
  have h2 : ((zs.drop p).take k).length ≤ k := List.length_take_le _ _
  have h3 : (256 : Int) ^ ((zs.drop p).take k).length ≤ 256 ^ 4 := by
    rw [e256, e256]
    have : 2 ^ (8 * ((zs.drop p).take k).length) ≤ 2 ^ (8 * 4) := Nat.pow_le_pow_right (by decide) (by omega)
    omega
  rw [p4] at h3
  unfold num; omega
theorem getS_num {zs : List Int} {p k : Nat} (h1 : 1 ≤ k) (h8 : k ≤ 8) (h2 : p + k ≤ zs.length) : getS zs (p : Int) (k : Int) = (num zs p k, ((p + k : Nat) : Int), 0) := by
  rw [getS_ok h1 h8 h2]; simp [num]
def magic : List Int := [72, 65, 67, 72, 1]
def wOf (zs : List Int) : Int := num zs 5 2 + 1
def hOf (zs : List Int) : Int := num zs 7 2 + 1
def nOf (zs : List Int) : Nat := (tilN (wOf zs) (hOf zs)).toNat
def lensOf (zs : List Int) (n : Nat) : List Int := (List.range n).map fun i => num zs (17 + 8 * i) 4
def baseOf (zs : List Int) : Int := 13 + 8 * tilN (wOf zs) (hOf zs)
/-- the i-th entry is as it must be -/
def okE (zs : List Int) (n i : Nat) : Prop := num zs (13 + 8 * i) 4 = baseOf zs + sumL ((lensOf zs n).take i) ∧ 1 ≤ num zs (17 + 8 * i) 4 ∧ num zs (17 + 8 * i) 4 ≤ 1048576
instance (zs : List Int) (n i : Nat) : Decidable (okE zs n i) := by unfold okE; infer_instance
def okD (zs : List Int) : Prop := ∀ i, i < nOf zs → okE zs (nOf zs) i
instance (zs : List Int) : Decidable (okD zs) := by unfold okD; infer_instance
def dgS (zs : List Int) : Int × Int × List Int × Int :=
  if zs.length < 13 then (0, 0, [], 14) else if zs.take 5 ≠ magic then (0, 0, [], 13) else if badS (wOf zs) (hOf zs) then (0, 0, [], 3) else if num zs 9 4 ≠ tilN (wOf zs) (hOf zs) then (0, 0, [], 6)
  else if (zs.length : Int) < baseOf zs then (0, 0, [], 14) else if okD zs then (wOf zs, hOf zs, lensOf zs (nOf zs), 0) else (0, 0, [], 13)
def DirGetR (zs : List Int) (W : World) (v : Value) (W' : World) : Prop := ∃ A cap, v = .tuple #[.int .i64 (dgS zs).1, .int .i64 (dgS zs).2.1, .slice A (dgS zs).2.2.1.length cap, .int .i64 (dgS zs).2.2.2] ∧ HS W W' [.row A (dgS zs).2.2.1.length cap (vi .i64 (entF (baseOf zs) (dgS zs).2.2.1)) 50 2]
theorem lensOf_len (zs : List Int) (n : Nat) : (lensOf zs n).length = n := by simp [lensOf]
theorem lensOf_at {zs : List Int} {n i : Nat} (hi : i < n) : nth (lensOf zs n) i = num zs (17 + 8 * i) 4 := by simp [lensOf, nth, List.getD, hi]
theorem dg_14 {zs : List Int} (h : zs.length < 13) : dgS zs = (0, 0, [], 14) := by unfold dgS; rw [if_pos h]
theorem dg_13 {zs : List Int} (h : ¬ zs.length < 13) (h2 : ¬ zs.take 5 = magic) : dgS zs = (0, 0, [], 13) := by unfold dgS; rw [if_neg h, if_pos h2]
theorem dg_3 {zs : List Int} (h : ¬ zs.length < 13) (h2 : zs.take 5 = magic) (h3 : badS (wOf zs) (hOf zs)) : dgS zs = (0, 0, [], 3) := by unfold dgS; rw [if_neg h, if_neg (by simpa using h2), if_pos h3]
theorem dg_6 {zs : List Int} (h : ¬ zs.length < 13) (h2 : zs.take 5 = magic) (h3 : ¬ badS (wOf zs) (hOf zs)) (h4 : ¬ num zs 9 4 = tilN (wOf zs) (hOf zs)) : dgS zs = (0, 0, [], 6) := by
  unfold dgS; rw [if_neg h, if_neg (by simpa using h2), if_neg h3, if_pos h4]
theorem dg_14b {zs : List Int} (h : ¬ zs.length < 13) (h2 : zs.take 5 = magic) (h3 : ¬ badS (wOf zs) (hOf zs)) (h4 : num zs 9 4 = tilN (wOf zs) (hOf zs)) (h5 : (zs.length : Int) < baseOf zs) : dgS zs = (0, 0, [], 14) := by
  unfold dgS; rw [if_neg h, if_neg (by simpa using h2), if_neg h3, if_neg (by simpa using h4), if_pos h5]
theorem dg_13b {zs : List Int} (h : ¬ zs.length < 13) (h2 : zs.take 5 = magic) (h3 : ¬ badS (wOf zs) (hOf zs)) (h4 : num zs 9 4 = tilN (wOf zs) (hOf zs)) (h5 : ¬ (zs.length : Int) < baseOf zs) (h6 : ¬ okD zs) : dgS zs = (0, 0, [], 13) := by
  unfold dgS; rw [if_neg h, if_neg (by simpa using h2), if_neg h3, if_neg (by simpa using h4), if_neg h5, if_neg h6]
theorem dg_ok {zs : List Int} (h : ¬ zs.length < 13) (h2 : zs.take 5 = magic) (h3 : ¬ badS (wOf zs) (hOf zs)) (h4 : num zs 9 4 = tilN (wOf zs) (hOf zs)) (h5 : ¬ (zs.length : Int) < baseOf zs) (h6 : okD zs) : dgS zs = (wOf zs, hOf zs, lensOf zs (nOf zs), 0) := by
  unfold dgS; rw [if_neg h, if_neg (by simpa using h2), if_neg h3, if_neg (by simpa using h4), if_neg h5, if_pos h6]
theorem magic_byt : Byt magic := by unfold Byt magic; decide
theorem upto_ok {zs : List Int} {n i : Nat} (h : ∀ j, j < i → okE zs n j) (h2 : okE zs n i) : ∀ j, j < i + 1 → okE zs n j := fun j hj => by
  rcases Nat.lt_or_eq_of_le (Nat.le_of_lt_succ hj) with h1 | rfl
  · exact h j h1
  · exact h2
theorem upto_bd {zs : List Int} {n i : Nat} (hi : i ≤ n) (h : ∀ j, j < i → okE zs n j) : okL ((lensOf zs n).take i) := fun x hx => by
  obtain ⟨j, hj, rfl⟩ := List.mem_iff_getElem.1 hx
  rw [List.length_take, lensOf_len] at hj
  rw [List.getElem_take, ← nth_lt (by rw [lensOf_len]; omega), lensOf_at (by omega)]
  exact (h j (by omega)).2
theorem tilS_zero {w h : Int} (hc : (tilS w h).2 = 0) : ¬ badS w h := fun hb => by
  unfold tilS at hc
  rw [if_pos hb] at hc
  cases hc
theorem tilS_bad {w h : Int} (hc : ¬ (tilS w h).2 = 0) : badS w h ∧ (tilS w h).2 = 3 := by
  unfold tilS at *
  by_cases hb : badS w h
  · rw [if_pos hb]; exact ⟨hb, rfl⟩
  · rw [if_neg hb] at hc; exact absurd rfl hc
theorem tilS_fst {w h : Int} (hb : ¬ badS w h) : (tilS w h).1 = tilN w h := by unfold tilS; rw [if_neg hb]
theorem sizS_fst {w h : Int} (hb : ¬ badS w h) : (sizS w h).1 = 13 + 8 * tilN w h := by unfold sizS; rw [if_neg hb]

set_option maxRecDepth 100000 in
theorem bytesEqual_any (A : Option Addr) (m cap : Nat) (zs : List Int) (A2 : Option Addr) (m2 cap2 : Nat) (ys : List Int) (w : World) (h : Rd w A (vi .u8 zs)) (hl : zs.length = m) (hB : Byt zs) (h2 : Rd w A2 (vi .u8 ys)) (hl2 : ys.length = m2) (hB2 : Byt ys) :
    Ret Tryz.prog 51 [.slice A m cap, .slice A2 m2 cap2] w (fun v w' => v = .bool (decide (zs = ys)) ∧ Below w.heap.size w w') := by
  refine ret_enter Tryz.func51 rfl rfl rfl ?_
  have H0 := HS.start w
  refine cw_seq ?_
  refine cw_reg ?_
  refine ry (y_asg rfl rfl) rfl rfl ?_
  refine reg_nil ?_
  refine fn_next ?_
  refine cw_seq ?_
  refine cw_reg ?_
  refine ry (y_mov rfl rfl) rfl rfl ?_
  refine ry (y_str rfl Tryz.underlying22 Tryz.underlying5 Tryz.underlying9 rfl (h.below H0.base) (hl)) rfl rfl ?_
  refine ry (y_mov rfl rfl) rfl rfl ?_
  refine ry (y_str rfl Tryz.underlying22 Tryz.underlying5 Tryz.underlying9 rfl (h2.below H0.base) (hl2)) rfl rfl ?_
  refine ry (y_streq rfl rfl rfl (hB) (hB2)) rfl rfl ?_
  refine ry (y_asg rfl rfl) rfl rfl ?_
  refine reg_nil ?_
  refine fn_next ?_
  refine cw_ret ?_
  refine fn_ret1 rfl rfl ?_
  exact ⟨rfl, H0.base⟩

set_option maxRecDepth 100000 in
theorem hasPrefix_any (A : Option Addr) (m cap : Nat) (zs : List Int) (A2 : Option Addr) (m2 cap2 : Nat) (ys : List Int) (w : World) (h : Rd w A (vi .u8 zs)) (hl : zs.length = m) (hB : Byt zs) (h2 : Rd w A2 (vi .u8 ys)) (hl2 : ys.length = m2) (hB2 : Byt ys) (hle : m2 ≤ m) (hcap : m ≤ cap) :
    Ret Tryz.prog 55 [.slice A m cap, .slice A2 m2 cap2] w (fun v w' => v = .bool (decide (zs.take m2 = ys)) ∧ Below w.heap.size w w') := by
  refine ret_enter Tryz.func55 rfl rfl rfl ?_
  have H0 := HS.start w
  refine cw_seq ?_
  refine cw_reg ?_
  refine ry (y_asg rfl rfl) rfl rfl ?_
  refine reg_nil ?_
  refine fn_next ?_
  refine cw_seq ?_
  refine cw_reg ?_
  refine ry (y_mov rfl rfl) rfl rfl ?_
  refine ry (y_len rfl Tryz.underlying22 rfl) rfl rfl ?_
  refine ry (y_mov rfl rfl) rfl rfl ?_
  refine ry (y_len rfl Tryz.underlying22 rfl) rfl rfl ?_
  refine ry (y_geq rfl rfl rfl) rfl rfl ?_
  refine ry (y_mov rfl rfl) rfl rfl ?_
  refine rg_splitd (d := 10) rfl (fun h1 => ?_) (fun h1 => ?_)
  · skip
    refine rgy (y_mov rfl rfl) rfl rfl rfl rfl ?_
    refine rgy (y_mov rfl rfl) rfl rfl rfl rfl ?_
    refine rgy (y_len rfl Tryz.underlying22 rfl) rfl rfl rfl rfl ?_
    have hsub : Rd w (subA A cap 0 1) (vi .u8 (zs.take m2)) := by
      have := Rd.slice (lo := 0) (hi := m2) (size := 1) (cap := cap) h (by omega) (by omega)
      simp only [Nat.mul_one, Nat.zero_mul, List.drop_zero, vi_take] at this
      exact this
    refine rgy (y_sh (hi := m2) rfl rfl rfl kfdir3_1 (rfl) (by omega)) rfl rfl rfl rfl ?_
    refine rgy (y_mov rfl rfl) rfl rfl rfl rfl ?_
    refine rg_on rfl rfl rfl (op_call (bytesEqual_any _ m2 _ (zs.take m2) A2 m2 cap2 ys _ (hsub.below H0.base) (by rw [List.length_take]; omega) (hB.take m2) (h2.below H0.base) hl2 hB2) rfl kfdir3_2 ⟨rfl, rfl, trivial⟩) rfl ?_
    rintro _ w3 ⟨rfl, e2⟩
    have H4 := H0.ext e2
    refine ry (y_pick rfl rfl rfl) rfl rfl ?_
    refine ry (y_asg rfl rfl) rfl rfl ?_
    refine reg_nil ?_
    refine fn_next ?_
    refine cw_ret ?_
    refine fn_ret1 rfl rfl ?_
    exact ⟨rfl, H4.base⟩
  · exfalso; omega

theorem Get_num (A : Option Addr) (m cap : Nat) (zs : List Int) (p k : Nat) (w : World) (h : Rd w A (vi .u8 zs)) (hl : zs.length = m) (hm : m ≤ 1000000) (hcap : m ≤ cap) (hB : Byt zs) (h1 : 1 ≤ k) (h8 : k ≤ 8) (h2 : p + k ≤ zs.length) :
    Ret Tryz.prog 91 [.slice A m cap, .int .i64 (p : Int), .int .i64 (k : Int)] w (fun v w' => v = .tuple #[.int .u64 (num zs p k), .int .i64 ((p + k : Nat) : Int), .int .i64 0] ∧ Below w.heap.size w w') := by
  have := Get_any A m cap zs p k w h hl hm hcap hB (by omega) (by omega)
  unfold GetR at this; rw [getS_num h1 h8 h2] at this; exact this
theorem refGet_num (A : Option Addr) (m cap : Nat) (zs : List Int) (p k : Nat) (w : World) (h : Rd w A (vi .u8 zs)) (hl : zs.length = m) (hm : m ≤ 1000000) (hcap : m ≤ cap) (hB : Byt zs) (h1 : 1 ≤ k) (h8 : k ≤ 8) (h2 : p + k ≤ zs.length) :
    Ret Tryz.prog 83 [.slice A m cap, .int .i64 (p : Int), .int .i64 (k : Int)] w (fun v w' => v = .tuple #[.int .u64 (num zs p k), .int .i64 ((p + k : Nat) : Int), .int .i64 0] ∧ Below w.heap.size w w') := by
  have := refGet_any A m cap zs p k w h hl hm hcap hB (by omega) (by omega)
  unfold GetR at this; rw [getS_num h1 h8 h2] at this; exact this

set_option maxRecDepth 100000 in
theorem refget_any (A : Option Addr) (m cap : Nat) (zs : List Int) (p k : Nat) (w : World) (h : Rd w A (vi .u8 zs)) (hl : zs.length = m) (hm : m ≤ 1000000) (hcap : m ≤ cap) (hB : Byt zs) (h1 : 1 ≤ k) (h4 : k ≤ 4) (h2 : p + k ≤ zs.length) :
    Ret Tryz.prog 40 [.slice A m cap, .int .i64 (p : Int), .int .i64 (k : Int)] w (fun v w' => v = .int .i64 (num zs p k) ∧ Below w.heap.size w w') := by
  have hnb := num_bd hB p h4
  refine ret_enter Tryz.func40 rfl rfl rfl ?_
  have H0 := HS.start w
  refine cw_seq ?_
  refine cw_reg ?_
  refine ry (y_asg rfl rfl) rfl rfl ?_
  refine reg_nil ?_
  refine fn_next ?_
  refine cw_seq ?_
  refine cw_reg ?_
  refine ry (y_mov rfl rfl) rfl rfl ?_
  refine ry (y_mov rfl rfl) rfl rfl ?_
  refine ry (y_mov rfl rfl) rfl rfl ?_
  refine reg_op (op_call (refGet_num A m cap zs p k _ (h.below H0.base) hl hm hcap hB h1 (by omega) h2) rfl kfdir3_3 ⟨rfl, rfl, rfl, trivial⟩) rfl rfl ?_
  rintro _ w2 ⟨rfl, e1⟩
  have H3 := H0.ext e1
  refine ry (y_mov rfl rfl) rfl rfl ?_
  refine ry (y_ext rfl rfl rfl) rfl rfl ?_
  refine ry (y_ext rfl rfl rfl) rfl rfl ?_
  refine ry (y_ext rfl rfl rfl) rfl rfl ?_
  refine ry (y_asg rfl rfl) rfl rfl ?_
  refine ry (y_asg rfl rfl) rfl rfl ?_
  refine ry (y_asg rfl rfl) rfl rfl ?_
  refine reg_nil ?_
  refine fn_next ?_
  refine cw_seq ?_
  refine cw_reg ?_
  refine ry (y_mov rfl rfl) rfl rfl ?_
  refine ry (y_conv rfl Tryz.underlying123 Tryz.underlying2 rfl (wi (by omega))) rfl rfl ?_
  refine ry (y_asg rfl rfl) rfl rfl ?_
  refine reg_nil ?_
  refine fn_next ?_
  refine cw_ret ?_
  refine fn_ret1 rfl rfl ?_
  exact ⟨rfl, H3.base⟩

set_option maxRecDepth 100000 in
theorem next_any (w0 : World) (l : List Ob) (b : Nat) (A : Option Addr) (m cap : Nat) (zs : List Int) (p k : Nat) (w : World) (H0 : HS w0 w (.blk b [.slice A m cap, .int .i64 (p : Int)] 97 :: l)) (h : Rd w0 A (vi .u8 zs)) (hl : zs.length = m) (hm : m ≤ 1000000) (hcap : m ≤ cap) (hB : Byt zs) (h1 : 1 ≤ k) (h4 : k ≤ 4) (h2 : p + k ≤ zs.length) :
    Ret Tryz.prog 56 [.pointer (some ⟨b, 0, none⟩), .int .i64 (k : Int)] w (fun v w' => v = .int .i64 (num zs p k) ∧ HS w0 w' (.blk b [.slice A m cap, .int .i64 ((p + k : Nat) : Int)] 97 :: l)) := by
  have hnb := num_bd hB p h4
  refine ret_enter Tryz.func56 rfl rfl rfl ?_
  refine cw_seq ?_
  refine cw_reg ?_
  refine ry (y_asg rfl rfl) rfl rfl ?_
  refine reg_nil ?_
  refine fn_next ?_
  refine cw_seq ?_
  refine cw_draw H0 [0, 1, 2, 3, 4, 5, 6, 7, 8, 9, 10, 11, 12, 13, 14, 15, 16] [] (fun X HX => HX) (by kernel_rfl) (by kernel_rfl) (by rfl) ?_
  simp only [pick, List.getElem?_cons_succ, List.getElem?_cons_zero]
  refine hk_y (fun Y HY => y_mov rfl rfl) rfl rfl ?_
  refine hk_y (fun Y HY => y_nilck rfl rfl) rfl rfl ?_
  refine hk_y (fun Y HY => y_fa rfl rfl kfdir3_4 rfl) rfl rfl ?_
  refine hk_y (fun Y HY => y_ld rfl rfl kfdir3_5 (HY.cell (i := 0) rfl rfl)) rfl rfl ?_
  refine hk_y (fun Y HY => y_mov rfl rfl) rfl rfl ?_
  refine hk_y (fun Y HY => y_nilck rfl rfl) rfl rfl ?_
  refine hk_y (fun Y HY => y_fa rfl rfl kfdir3_6 rfl) rfl rfl ?_
  refine hk_y (fun Y HY => y_ld rfl rfl kfdir3_7 (HY.cell (i := 0) rfl rfl)) rfl rfl ?_
  refine hk_y (fun Y HY => y_mov rfl rfl) rfl rfl ?_
  refine hk_q (qy_call (fun Y HY => Get_num A m cap zs p k _ (h.below HY.base) hl hm hcap hB h1 (by omega) h2) rfl kfdir3_8 ⟨rfl, rfl, rfl, trivial⟩) rfl rfl ?_
  refine hk_y (fun Y HY => y_mov rfl rfl) rfl rfl ?_
  refine hk_y (fun Y HY => y_ext rfl rfl rfl) rfl rfl ?_
  refine hk_y (fun Y HY => y_ext rfl rfl rfl) rfl rfl ?_
  refine hk_y (fun Y HY => y_ext rfl rfl rfl) rfl rfl ?_
  refine hk_y (fun Y HY => y_asg rfl rfl) rfl rfl ?_
  refine hk_y (fun Y HY => y_asg rfl rfl) rfl rfl ?_
  refine hk_y (fun Y HY => y_asg rfl rfl) rfl rfl ?_
  refine hk_nil ?_
  intro w1 H2
  refine tv_nil ?_
  refine fn_next ?_
  refine cw_seq ?_
  refine cw_seq ?_
  refine cw_reg ?_
  refine ry (y_mov rfl rfl) rfl rfl ?_
  refine ry (y_eql rfl rfl rfl) rfl rfl ?_
  refine reg_nil ?_
  refine fn_next ?_
  refine cw_condd rfl (fun h3 => ?_) (fun h3 => ?_)
  · skip
    refine cw_reg ?_
    refine ry (y_mov rfl rfl) rfl rfl ?_
    refine ry (y_mov rfl rfl) rfl rfl ?_
    refine ry (y_nilck rfl rfl) rfl rfl ?_
    refine ry (y_fa rfl rfl kfdir3_6 rfl) rfl rfl ?_
    refine reg_op (op_st (i := 0) (vs := [.int _ _]) H2 rfl rfl rfl rfl rfl kfdir3_9 rfl rfl rfl) rfl rfl ?_
    rintro _ w4 H5
    refine reg_nil ?_
    refine fn_next ?_
    refine cw_seq ?_
    refine cw_reg ?_
    refine ry (y_mov rfl rfl) rfl rfl ?_
    refine ry (y_conv rfl Tryz.underlying123 Tryz.underlying2 rfl (wi (by omega))) rfl rfl ?_
    refine ry (y_asg rfl rfl) rfl rfl ?_
    refine reg_nil ?_
    refine fn_next ?_
    refine cw_ret ?_
    refine fn_ret1 rfl rfl ?_
    exact ⟨rfl, H5⟩
  · exact absurd rfl h3

end Go.Proofs.YtbnjbgcadkdljaaGreatDoor
