/- Layer 13: the laws. -/
import Derived.Test.YtdaiapghoihagaaDir4
set_option linter.unusedVariables false
set_option linter.unusedSimpArgs false
namespace Go.Proofs.Ytdaiapghoihagaa
open Go Go.RowKit
theorem kflaw13a_1 : seqB Try.prog 48 2 = true := by kernel_rfl
theorem kflaw13a_2 : callB Try.prog 27 = true := by kernel_rfl
theorem kflaw13a_3 : (Try.prog.info? 2).map (fun i => (i.size, i.zero.map Value.cells)) = some (1, some (List.toArray [(.int .i64 0)])) := by kernel_rfl
theorem kflaw13a_4 : callB Try.prog 23 = true := by kernel_rfl
theorem kflaw13a_5 : callB Try.prog 29 = true := by kernel_rfl
theorem kflaw13a_6 : elB Try.prog 44 2 = true := by kernel_rfl
theorem kflaw13a_7 : aggB Try.prog 48 2 = true := by kernel_rfl
theorem kflaw13a_8 : (Try.prog.info? 48).bind (fun i => i.zero.map Value.cells) = some (List.toArray [(.int .i64 0), (.int .i64 0)]) := by kernel_rfl
theorem Byt.app {a b : List Int} (ha : Byt a) (hb : Byt b) : Byt (a ++ b) := fun z hz => (List.mem_append.1 hz).elim (ha z) (hb z)
theorem dgs_byt (u : Int) (n : Nat) : Byt (dgs u n) := fun z hz => by
  unfold dgs at hz
  obtain ⟨j, _, rfl⟩ := List.mem_map.1 hz
  exact dg_bd u j
theorem num_at {pre post : List Int} {u : Int} {k : Nat} (hu : 0 ≤ u ∧ u < 256 ^ k) : num (pre ++ dgs u k ++ post) pre.length k = u := by
  unfold num
  rw [List.append_assoc, List.drop_left, List.take_left' (dgs_len u k), un_dgs]
  exact Int.emod_eq_of_lt hu.1 hu.2
theorem num_at' {zs pre post : List Int} {u : Int} {p k : Nat} (h : zs = pre ++ dgs u k ++ post) (hp : pre.length = p) (hu : 0 ≤ u ∧ u < 256 ^ k) : num zs p k = u := by
  subst hp; rw [h]; exact num_at hu
theorem entB_app (l m : List Int) : ∀ a : Int, entB a (l ++ m) = entB a l ++ entB (a + sumL l) m := by
  induction l with
  | nil => intro a; simp [entB, sumL]
  | cons y l ih => intro a; simp only [List.cons_append, entB, ih, sumL, Int.add_assoc, List.append_assoc]
theorem entB_split {l : List Int} {i : Nat} (hi : i < l.length) (a : Int) : ∃ q, entB a l = entB a (l.take i) ++ dgs (a + sumL (l.take i)) 4 ++ dgs (nth l i) 4 ++ q := by
  refine ⟨entB (a + sumL (l.take i) + nth l i) (l.drop (i + 1)), ?_⟩
  have h1 : l = l.take i ++ (nth l i :: l.drop (i + 1)) := by
    rw [nth_lt hi, ← List.drop_eq_getElem_cons hi, List.take_append_drop]
  conv => lhs; rw [h1]
  rw [entB_app]
  simp only [entB, List.append_assoc]
theorem dirS_zero {w h : Int} {l : List Int} (hc : (dirS w h l).2 = 0) : ¬ badS w h ∧ (l.length : Int) = tilN w h ∧ okL l ∧ dirS w h l = (headB w h ++ entB (13 + 8 * tilN w h) l, 0) := by
  by_cases hb : badS w h
  · rw [dirS_bad hb] at hc; cases hc
  · by_cases hn : (l.length : Int) = tilN w h
    · by_cases ho : okL l
      · exact ⟨hb, hn, ho, dirS_ok hb hn ho⟩
      · rw [dirS_val hb hn ho] at hc; cases hc
    · rw [dirS_cnt hb hn] at hc; cases hc
theorem put_get {w h : Int} {l bh : List Int} (hb : ¬ badS w h) (hn : (l.length : Int) = tilN w h) (ho : okL l) : dgS (headB w h ++ entB (13 + 8 * tilN w h) l ++ bh) = (w, h, l, 0) ∧ baseOf (headB w h ++ entB (13 + 8 * tilN w h) l ++ bh) = 13 + 8 * tilN w h := by
  have htb := tilN_bd hb
  have hb' := hb
  unfold badS at hb'
  obtain ⟨zs, hz⟩ : ∃ zs, zs = headB w h ++ entB (13 + 8 * tilN w h) l ++ bh := ⟨_, rfl⟩
  rw [← hz]
  have hl : zs.length = 13 + l.length * 8 + bh.length := by rw [hz, List.length_append, List.length_append, headB_len, entB_len]
  have e5 : zs.take 5 = magic := by rw [hz]; simp [headB, magic]
  have n5 : num zs 5 2 = w - 1 := num_at' (pre := [72, 65, 67, 72, 1]) (post := dgs (h - 1) 2 ++ dgs (tilN w h) 4 ++ entB (13 + 8 * tilN w h) l ++ bh) (by rw [hz]; simp [headB]) rfl (by rw [p2]; omega)
  have n7 : num zs 7 2 = h - 1 := num_at' (pre := [72, 65, 67, 72, 1] ++ dgs (w - 1) 2) (post := dgs (tilN w h) 4 ++ entB (13 + 8 * tilN w h) l ++ bh) (by rw [hz]; simp [headB]) (by simp [dgs_len]) (by rw [p2]; omega)
  have n9 : num zs 9 4 = tilN w h := num_at' (pre := [72, 65, 67, 72, 1] ++ dgs (w - 1) 2 ++ dgs (h - 1) 2) (post := entB (13 + 8 * tilN w h) l ++ bh) (by rw [hz]; simp [headB]) (by simp [dgs_len]) (by rw [p4]; omega)
  have ew : wOf zs = w := by unfold wOf; omega
  have eh : hOf zs = h := by unfold hOf; omega
  have eb : baseOf zs = 13 + 8 * tilN w h := by unfold baseOf; rw [ew, eh]
  have en : nOf zs = l.length := by unfold nOf; rw [ew, eh]; omega
  have hat : ∀ i, i < l.length → num zs (13 + 8 * i) 4 = 13 + 8 * tilN w h + sumL (l.take i) ∧ num zs (17 + 8 * i) 4 = nth l i := fun i hi => by
    obtain ⟨q, hq⟩ := entB_split hi (13 + 8 * tilN w h)
    have hx := okL_at ho hi
    have hs := sumL_bd (okL_take ho i)
    have htl : (l.take i).length = i := by rw [List.length_take]; omega
    constructor
    · refine num_at' (pre := headB w h ++ entB (13 + 8 * tilN w h) (l.take i)) (post := dgs (nth l i) 4 ++ q ++ bh) (by rw [hz, hq]; simp only [List.append_assoc]) (by rw [List.length_append, headB_len, entB_len]; omega) (by rw [p4]; omega)
    · refine num_at' (pre := headB w h ++ entB (13 + 8 * tilN w h) (l.take i) ++ dgs (13 + 8 * tilN w h + sumL (l.take i)) 4) (post := q ++ bh) (by rw [hz, hq]; simp only [List.append_assoc]) (by rw [List.length_append, List.length_append, headB_len, entB_len, dgs_len]; omega) (by rw [p4]; omega)
  have hlens : lensOf zs l.length = l := nth_ext (lensOf_len _ _) (fun j hj => by rw [lensOf_len] at hj; rw [lensOf_at hj, (hat j hj).2])
  have hok : okD zs := fun i hi => by
    rw [en] at hi ⊢
    unfold okE
    rw [hlens, eb, (hat i hi).1, (hat i hi).2]
    exact ⟨rfl, okL_at ho hi⟩
  refine ⟨?_, eb⟩
  rw [dg_ok (by omega) e5 (by rw [ew, eh]; exact hb) (by rw [ew, eh]; exact n9) (by rw [eb]; omega) hok, ew, eh, en, hlens]
theorem dgs_num {zs : List Int} (hB : Byt zs) {p k : Nat} (h : p + k ≤ zs.length) : dgs (num zs p k) k = (zs.drop p).take k := by
  have hl : ((zs.drop p).take k).length = k := by rw [List.length_take, List.length_drop]; omega
  have := dgs_un _ ((hB.drop p).take k)
  rw [hl] at this
  exact this
theorem take_more (zs : List Int) (p k : Nat) : zs.take (p + k) = zs.take p ++ (zs.drop p).take k := List.take_add
theorem dgS_zero {zs : List Int} (hc : (dgS zs).2.2.2 = 0) : 13 ≤ zs.length ∧ zs.take 5 = magic ∧ ¬ badS (wOf zs) (hOf zs) ∧ num zs 9 4 = tilN (wOf zs) (hOf zs) ∧ baseOf zs ≤ zs.length ∧ okD zs ∧ dgS zs = (wOf zs, hOf zs, lensOf zs (nOf zs), 0) := by
  by_cases h1 : zs.length < 13
  · rw [dg_14 h1] at hc; cases hc
  by_cases h2 : zs.take 5 = magic
  · by_cases h3 : badS (wOf zs) (hOf zs)
    · rw [dg_3 h1 h2 h3] at hc; cases hc
    by_cases h4 : num zs 9 4 = tilN (wOf zs) (hOf zs)
    · by_cases h5 : (zs.length : Int) < baseOf zs
      · rw [dg_14b h1 h2 h3 h4 h5] at hc; cases hc
      by_cases h6 : okD zs
      · exact ⟨by omega, h2, h3, h4, by omega, h6, dg_ok h1 h2 h3 h4 h5 h6⟩
      · rw [dg_13b h1 h2 h3 h4 h5 h6] at hc; cases hc
    · rw [dg_6 h1 h2 h3 h4] at hc; cases hc
  · rw [dg_13 h1 h2] at hc; cases hc
theorem get_put {zs : List Int} (hB : Byt zs) (hc : (dgS zs).2.2.2 = 0) : dirS (wOf zs) (hOf zs) (lensOf zs (nOf zs)) = (zs.take (13 + 8 * nOf zs), 0) ∧ 13 + 8 * nOf zs ≤ zs.length := by
  obtain ⟨h1, h2, h3, h4, h5, h6, _⟩ := dgS_zero hc
  have htb := tilN_bd h3
  have hb' := h3
  unfold badS at hb'
  have hn : ((nOf zs : Nat) : Int) = tilN (wOf zs) (hOf zs) := by unfold nOf; omega
  have hbase : baseOf zs = 13 + 8 * tilN (wOf zs) (hOf zs) := rfl
  have hle : 13 + 8 * nOf zs ≤ zs.length := by omega
  have hL : okL (lensOf zs (nOf zs)) := by
    have := upto_bd (Nat.le_refl _) h6
    rwa [List.take_of_length_le (by rw [lensOf_len]; omega)] at this
  refine ⟨?_, hle⟩
  rw [dirS_ok h3 (by rw [lensOf_len]; exact hn) hL]
  have d5 := dgs_num hB (p := 5) (k := 2) (by omega)
  have d7 := dgs_num hB (p := 7) (k := 2) (by omega)
  have d9 := dgs_num hB (p := 9) (k := 4) (by omega)
  have hhead : headB (wOf zs) (hOf zs) = zs.take 13 := by
    unfold headB
    rw [show wOf zs - 1 = num zs 5 2 by unfold wOf; omega, show hOf zs - 1 = num zs 7 2 by unfold hOf; omega, ← h4, d5, d7, d9]
    have t1 := take_more zs 5 2
    have t2 := take_more zs 7 2
    have t3 := take_more zs 9 4
    rw [h2] at t1
    rw [t3, t2, t1]; rfl
  have key : ∀ i, i ≤ nOf zs → headB (wOf zs) (hOf zs) ++ entB (13 + 8 * tilN (wOf zs) (hOf zs)) ((lensOf zs (nOf zs)).take i) = zs.take (13 + 8 * i) := by
    intro i
    induction i with
    | zero => intro _; rw [List.take_zero, hhead]; simp [entB]
    | succ i ih =>
      intro hi
      have ih' := ih (by omega)
      obtain ⟨e1, e2, e3⟩ := h6 i (by omega)
      rw [lens_take (by omega), entB_snoc]
      have t1 := take_more zs (13 + 8 * i) 4
      have t2 := take_more zs (17 + 8 * i) 4
      rw [show 13 + 8 * (i + 1) = 17 + 8 * i + 4 by omega, t2, show 17 + 8 * i = 13 + 8 * i + 4 by omega, t1, ← ih']
      rw [show 13 + 8 * i + 4 = 17 + 8 * i by omega]
      have q1 := dgs_num hB (p := 13 + 8 * i) (k := 4) (by omega)
      have q2 := dgs_num hB (p := 17 + 8 * i) (k := 4) (by omega)
      rw [← q1, ← q2, e1]
      simp only [List.append_assoc]; rfl
  have := key (nOf zs) (Nat.le_refl _)
  rw [List.take_of_length_le (by rw [lensOf_len]; omega)] at this
  rw [this]
theorem dirS_byt {w h : Int} {l : List Int} : Byt (dirS w h l).1 := by
  unfold dirS
  have key : ∀ (l : List Int) (a : Int), Byt (entB a l) := fun l => by
    induction l with
    | nil => intro a z hz; cases hz
    | cons x l ih => intro a; exact ((dgs_byt _ _).app (dgs_byt _ _)).app (ih _)
  split
  · exact fun z hz => by cases hz
  · split
    · exact fun z hz => by cases hz
    · split
      · exact (((Byt.app (by unfold Byt; decide) (dgs_byt _ _)).app (dgs_byt _ _)).app (dgs_byt _ _)).app (key _ _)
      · exact fun z hz => by cases hz
theorem dirS_len {w h : Int} {l : List Int} : (dirS w h l).1.length ≤ 13 + l.length * 8 := by
  unfold dirS
  split
  · simp
  · split
    · simp
    · split
      · rw [List.length_append, headB_len, entB_len]; omega
      · simp

theorem ex13 : dirS 1 1 [4] = ([72, 65, 67, 72, 1, 0, 0, 0, 0, 1, 0, 0, 0, 21, 0, 0, 0, 4, 0, 0, 0], 0) := by decide +kernel
theorem ex13b : dgS [72, 65, 67, 72, 1, 0, 0, 0, 0, 1, 0, 0, 0, 21, 0, 0, 0, 4, 0, 0, 0] = (1, 1, [4], 0) := by decide +kernel
theorem ex13c : baseOf [72, 65, 67, 72, 1, 0, 0, 0, 0, 1, 0, 0, 0, 21, 0, 0, 0, 4, 0, 0, 0] = 21 := by decide +kernel

theorem ex_put (A : Option Addr) (cap : Nat) (w : World) (h : Rd w A (vi .i64 [4])) : Ret Try.prog 23 [.int .i64 1, .int .i64 1, .slice A 1 cap] w (fun v w' => ∃ A' cap', v = .tuple #[.slice A' 21 cap', .int .i64 0] ∧ HS w w' [.row A' 21 cap' (vi .u8 [72, 65, 67, 72, 1, 0, 0, 0, 0, 1, 0, 0, 0, 21, 0, 0, 0, 4, 0, 0, 0]) 5 1]) := by
  have h := dirPut_any 1 1 A 1 cap [4] w h rfl (by omega) (by omega) (by omega)
  unfold DirPutR at h
  rw [ex13] at h
  exact h
theorem ex_get (A : Option Addr) (cap : Nat) (w : World) (h : Rd w A (vi .u8 [72, 65, 67, 72, 1, 0, 0, 0, 0, 1, 0, 0, 0, 21, 0, 0, 0, 4, 0, 0, 0])) (hc : 21 ≤ cap) : Ret Try.prog 29 [.slice A 21 cap] w (fun v w' => ∃ A' cap', v = .tuple #[.int .i64 1, .int .i64 1, .slice A' 1 cap', .int .i64 0] ∧ HS w w' [.row A' 1 cap' (vi .i64 [21, 4]) 48 2]) := by
  have h := dirGet_any A 21 cap [72, 65, 67, 72, 1, 0, 0, 0, 0, 1, 0, 0, 0, 21, 0, 0, 0, 4, 0, 0, 0] w h rfl (by omega) hc (by unfold Byt; decide)
  unfold DirGetR at h
  rw [ex13b, ex13c] at h
  exact h

set_option maxRecDepth 100000 in
theorem awake13  (w : World) :
    Ret Try.prog 22 [] w (fun v w' => v = .bool true ∧ Below w.heap.size w w') := by
  refine ret_enter Try.func22 rfl rfl rfl ?_
  have H0 := HS.start w
  refine cw_seq ?_
  refine cw_reg ?_
  refine ry (y_asg rfl rfl) rfl rfl ?_
  refine reg_nil ?_
  refine fn_next ?_
  refine cw_seq ?_
  refine cw_reg ?_
  refine reg_op (op_call (Size_ok 1 1 _ (by decide)) rfl kflaw13a_2 ⟨rfl, rfl, trivial⟩) rfl rfl ?_
  rintro _ w2 ⟨rfl, e1⟩
  have H3 := H0.ext e1
  refine ry (y_mov rfl rfl) rfl rfl ?_
  refine ry (y_ext rfl rfl rfl) rfl rfl ?_
  refine ry (y_ext rfl rfl rfl) rfl rfl ?_
  refine ry (y_asg rfl rfl) rfl rfl ?_
  refine ry (y_asg rfl rfl) rfl rfl ?_
  refine reg_nil ?_
  refine fn_next ?_
  refine cw_seq ?_
  refine cw_reg ?_
  refine reg_op (op_lit (parts := [(0, _)]) (vs := [(0, _)]) (cs := [.int _ _]) H3 rfl Try.underlying23 kflaw13a_3 rfl ⟨rfl, trivial⟩ rfl rfl) rfl rfl ?_
  rintro _ w5 ⟨b4, rfl, H6⟩
  have H7 := H6.asrow (m := 1) (size := 1) rfl (by decide)
  refine reg_op (op_call (ex_put _ _ _ (H7.rd (i := 0) rfl)) rfl kflaw13a_4 ⟨rfl, rfl, rfl, trivial⟩) rfl rfl ?_
  rintro _ w9 ⟨A11, c12, rfl, k8⟩
  have H10 := H7.call k8
  refine ry (y_mov rfl rfl) rfl rfl ?_
  refine ry (y_ext rfl rfl rfl) rfl rfl ?_
  refine ry (y_ext rfl rfl rfl) rfl rfl ?_
  refine ry (y_asg rfl rfl) rfl rfl ?_
  refine ry (y_asg rfl rfl) rfl rfl ?_
  refine reg_nil ?_
  refine fn_next ?_
  refine cw_seq ?_
  refine cw_reg ?_
  refine ry (y_mov rfl rfl) rfl rfl ?_
  refine reg_op (op_call (ex_get _ _ _ (H10.rd (i := 0) rfl) (H10.len (i := 0) rfl).2.1) rfl kflaw13a_5 ⟨rfl, trivial⟩) rfl rfl ?_
  rintro _ w14 ⟨A16, c17, rfl, k13⟩
  have H15 := H10.call k13
  refine ry (y_mov rfl rfl) rfl rfl ?_
  refine ry (y_ext rfl rfl rfl) rfl rfl ?_
  refine ry (y_ext rfl rfl rfl) rfl rfl ?_
  refine ry (y_ext rfl rfl rfl) rfl rfl ?_
  refine ry (y_ext rfl rfl rfl) rfl rfl ?_
  refine ry (y_asg rfl rfl) rfl rfl ?_
  refine ry (y_asg rfl rfl) rfl rfl ?_
  refine ry (y_asg rfl rfl) rfl rfl ?_
  refine ry (y_asg rfl rfl) rfl rfl ?_
  refine reg_nil ?_
  refine fn_next ?_
  refine cw_seq ?_
  refine cw_reg ?_
  refine ry (y_mov rfl rfl) rfl rfl ?_
  refine ry (y_eql rfl rfl rfl) rfl rfl ?_
  refine ry (y_mov rfl rfl) rfl rfl ?_
  refine rg_splitd (d := 27) rfl (fun h18 => ?_) (fun h18 => ?_)
  · skip
    refine rgy (y_mov rfl rfl) rfl rfl rfl rfl ?_
    refine rgy (y_eql rfl rfl rfl) rfl rfl rfl rfl ?_
    refine ry (y_pick rfl rfl rfl) rfl rfl ?_
    refine ry (y_mov rfl rfl) rfl rfl ?_
    refine rg_splitd (d := 31) rfl (fun h19 => ?_) (fun h19 => ?_)
    · skip
      refine rgy (y_mov rfl rfl) rfl rfl rfl rfl ?_
      refine rgy (y_eql rfl rfl rfl) rfl rfl rfl rfl ?_
      refine ry (y_pick rfl rfl rfl) rfl rfl ?_
      refine ry (y_mov rfl rfl) rfl rfl ?_
      refine rg_splitd (d := 35) rfl (fun h20 => ?_) (fun h20 => ?_)
      · skip
        refine rgy (y_mov rfl rfl) rfl rfl rfl rfl ?_
        refine rgy (y_eql rfl rfl rfl) rfl rfl rfl rfl ?_
        refine ry (y_pick rfl rfl rfl) rfl rfl ?_
        refine ry (y_mov rfl rfl) rfl rfl ?_
        refine rg_splitd (d := 39) rfl (fun h21 => ?_) (fun h21 => ?_)
        · skip
          refine rgy (y_mov rfl rfl) rfl rfl rfl rfl ?_
          refine rgy (y_len rfl Try.underlying44 rfl) rfl rfl rfl rfl ?_
          refine rgy (y_eql rfl rfl rfl) rfl rfl rfl rfl ?_
          refine ry (y_pick rfl rfl rfl) rfl rfl ?_
          refine ry (y_mov rfl rfl) rfl rfl ?_
          refine rg_splitd (d := 44) rfl (fun h22 => ?_) (fun h22 => ?_)
          · skip
            refine rgy (y_mov rfl rfl) rfl rfl rfl rfl ?_
            refine rgy (y_iar (i := 0) (H15.rd (i := 0) rfl) rfl rfl rfl kflaw13a_6 (rfl) (by decide) (rfl) ((rfl : (vi .i64 [21, 4])[0]? = some (.int .i64 21)))) rfl rfl rfl rfl ?_
            refine rgy (y_ldra (cs := [_, _]) (H15.rd (i := 0) rfl) rfl rfl kflaw13a_7 rfl (by decide) ((fun j v hv => by rw [Nat.zero_add]; exact hv : ∀ j v, ([.int .i64 21, .int .i64 4] : List Value)[j]? = some v → (vi .i64 [21, 4])[0 + j]? = some v))) rfl rfl rfl rfl ?_
            refine rgy (y_build (places := [(0, 1), (1, 1)]) (parts := [(0, _), (1, _)]) (vs := [(0, _), (1, _)]) (cs := [.int _ _, .int _ _]) rfl Try.underlying48 (by kernel_rfl) kflaw13a_8 rfl ⟨rfl, rfl, trivial⟩ rfl) rfl rfl rfl rfl ?_
            refine rgy (y_seq (ks := [.i64, .i64]) (a := [21, 4]) (b := [21, 4]) rfl (.inl ⟨rfl, rfl⟩) kflaw13a_1 rfl rfl rfl rfl rfl rfl rfl) rfl rfl rfl rfl ?_
            refine ry (y_pick rfl rfl rfl) rfl rfl ?_
            refine ry (y_asg rfl rfl) rfl rfl ?_
            refine reg_nil ?_
            refine fn_next ?_
            refine cw_ret ?_
            refine fn_ret1 rfl rfl ?_
            exact ⟨rfl, H15.base⟩
          · exact absurd rfl h22
        · exact absurd rfl h21
      · exact absurd rfl h20
    · exact absurd rfl h19
  · exact absurd rfl h18

set_option maxRecDepth 100000 in
theorem Same13 (A A' : Option Addr) (c c' : Nat) (a : Int) (l : List Int) (w : World) (h : Rd w A (vi .i64 (entF a l))) (h2 : Rd w A' (vi .i64 (entF a l))) (hl : l.length ≤ 100000) :
    Ret Try.prog 31 [.slice A l.length c, .slice A' l.length c'] w (fun v w' => v = .bool true ∧ Below w.heap.size w w') := by
  refine ret_enter Try.func31 rfl rfl rfl ?_
  have H0 := HS.start w
  refine cw_seq ?_
  refine cw_reg ?_
  refine ry (y_asg rfl rfl) rfl rfl ?_
  refine reg_nil ?_
  refine fn_next ?_
  refine cw_seq ?_
  refine cw_seq ?_
  refine cw_reg ?_
  refine ry (y_mov rfl rfl) rfl rfl ?_
  refine ry (y_len rfl Try.underlying44 rfl) rfl rfl ?_
  refine ry (y_mov rfl rfl) rfl rfl ?_
  refine ry (y_len rfl Try.underlying44 rfl) rfl rfl ?_
  refine ry (y_neq rfl rfl rfl) rfl rfl ?_
  refine reg_nil ?_
  refine fn_next ?_
  refine cw_condd rfl (fun h1 => ?_) (fun h1 => ?_)
  · exfalso; omega
  · skip
    refine cw_skip ?_
    refine fn_next ?_
    refine cw_seq ?_
    refine cw_seq ?_
    refine cw_reg ?_
    refine ry (y_asg rfl rfl) rfl rfl ?_
    refine reg_nil ?_
    refine fn_next ?_
    refine cw_block ?_
    refine cw_loopJ [4, 5, 11, 12, 13, 14, 15, 16, 17, 18, 19, 20, 21, 22, 23, 24, 25] (fun M wl ml => ∃ (i : Nat), M = [(5, .int .i64 (i : Int))] ∧ HS w wl [] ∧ (i ≤ l.length) ∧ ml = l.length - i) ⟨0, rfl, H0, Nat.zero_le _, rfl⟩ ⟨rfl, trivial⟩ ?_
    rintro M w2 m4 ⟨i, rfl, H3, hp0, rfl⟩
    refine cw_seq ?_
    refine cw_seq ?_
    refine cw_reg ?_
    refine ry (y_mov rfl rfl) rfl rfl ?_
    refine ry (y_mov rfl rfl) rfl rfl ?_
    refine ry (y_len rfl Try.underlying44 rfl) rfl rfl ?_
    refine ry (y_lss rfl rfl rfl) rfl rfl ?_
    refine reg_nil ?_
    refine fn_next ?_
    refine cw_condd rfl (fun h5 => ?_) (fun h5 => ?_)
    · skip
      have hge := ent_get (l := l) (i := i) (by omega) a
      have hpa := ent_part (l := l) (i := i) (by omega) a
      refine cw_skip ?_
      refine fn_next ?_
      refine cw_seq ?_
      refine cw_block ?_
      refine cw_seq ?_
      refine cw_draw H3 [0, 1, 2, 3, 4, 5, 6, 7, 8] [] (fun X HX => HX) (by kernel_rfl) (by kernel_rfl) (by rfl) ?_
      simp only [pick, List.getElem?_cons_succ, List.getElem?_cons_zero]
      refine hk_y (fun Y HY => y_mov rfl rfl) rfl rfl ?_
      refine hk_y (fun Y HY => y_mov rfl rfl) rfl rfl ?_
      refine hk_y (fun Y HY => y_iar (h.below HY.base) rfl rfl rfl kflaw13a_6 (rfl) (by omega) (rfl) (hge)) rfl rfl ?_
      refine hk_y (fun Y HY => y_ldra (cs := [_, _]) (h.below HY.base) rfl rfl kflaw13a_7 rfl (by decide) (hpa)) rfl rfl ?_
      refine hk_y (fun Y HY => y_mov rfl rfl) rfl rfl ?_
      refine hk_y (fun Y HY => y_mov rfl rfl) rfl rfl ?_
      refine hk_y (fun Y HY => y_iar (h2.below HY.base) rfl rfl rfl kflaw13a_6 (rfl) (by omega) (rfl) (hge)) rfl rfl ?_
      refine hk_y (fun Y HY => y_ldra (cs := [_, _]) (h2.below HY.base) rfl rfl kflaw13a_7 rfl (by decide) (hpa)) rfl rfl ?_
      refine hk_y (fun Y HY => y_seq (ks := [.i64, .i64]) (a := [a + sumL (l.take i), nth l i]) (b := [a + sumL (l.take i), nth l i]) rfl (.inr ⟨rfl, rfl⟩) kflaw13a_1 rfl rfl rfl rfl rfl rfl rfl) rfl rfl ?_
      refine hk_nil ?_
      intro w6 H7
      refine tv_nil ?_
      refine fn_next ?_
      refine cw_condd rfl (fun h8 => ?_) (fun h8 => ?_)
      · exact absurd rfl h8
      · skip
        refine cw_skip ?_
        refine fn_block ?_
        refine fn_next ?_
        refine cw_reg ?_
        refine ry (y_mov rfl rfl) rfl rfl ?_
        refine ry (y_add rfl rfl rfl (wi (by omega))) rfl rfl ?_
        refine ry (y_asg rfl rfl) rfl rfl ?_
        refine reg_nil ?_
        refine fn_roundJ ⟨i + 1, rfl, H7, by omega, rfl⟩ ⟨rfl, trivial⟩ (by omega) (by repeat (first | exact kp_refl | refine kp_app rfl rfl ?_ | refine kp_cons rfl ?_)) rfl
    · skip
      refine cw_exit ?_
      refine fn_then_exit (fn_then_exit (fn_block_exit ?_))
      refine fn_next ?_
      refine cw_seq ?_
      refine cw_reg ?_
      refine ry (y_asg rfl rfl) rfl rfl ?_
      refine reg_nil ?_
      refine fn_next ?_
      refine cw_ret ?_
      refine fn_ret1 rfl rfl ?_
      exact ⟨rfl, H3.base⟩

end Go.Proofs.Ytdaiapghoihagaa
