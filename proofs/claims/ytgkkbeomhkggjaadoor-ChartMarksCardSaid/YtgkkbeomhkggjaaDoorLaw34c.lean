/- Layer 34: ChartMarks. -/
import Derived.Test.YtgkkbeomhkggjaaDoorMarks2
import Derived.Test.YtgkkbeomhkggjaaDoorLaw34
set_option linter.unusedVariables false
set_option linter.unusedSimpArgs false
namespace Go.Proofs.YtgkkbeomhkggjaaDoor
open Go Go.RowKit
theorem kflaw34c_1 : callB Tryd.prog 17 = true := by kernel_rfl
theorem kflaw34c_2 : callB Tryd.prog 18 = true := by kernel_rfl
theorem kflaw34c_3 : aggB Tryd.prog 24 2 = true := by kernel_rfl
theorem kflaw34c_4 : callB Tryd.prog 19 = true := by kernel_rfl
theorem kflaw34c_5 : callB Tryd.prog 20 = true := by kernel_rfl
theorem kflaw34c_6 : (Tryd.prog.info? 9).map (fun i => (i.size, i.zero.map Value.cells)) = some (1, some (List.toArray [(.string .empty)])) := by kernel_rfl
theorem kflaw34c_7 : fldB Tryd.prog 24 1 1 = true := by kernel_rfl
theorem kflaw34c_8 : oneB Tryd.prog 2 = true := by kernel_rfl
theorem kflaw34c_9 : elB Tryd.prog 52 1 = true := by kernel_rfl
theorem kflaw34c_10 : oneB Tryd.prog 9 = true := by kernel_rfl
theorem kflaw34c_11 : callB Tryd.prog 21 = true := by kernel_rfl
theorem kflaw34c_12 : fldB Tryd.prog 24 0 0 = true := by kernel_rfl
theorem kflaw34c_13 : callB Tryd.prog 22 = true := by kernel_rfl
theorem kflaw34c_14 : callB Tryd.prog 23 = true := by kernel_rfl
theorem kflaw34c_15 : callB Tryd.prog 24 = true := by kernel_rfl
theorem flat_take_le {q : List (List Int)} {i : Nat} : (q.take i).flatten.length ≤ q.flatten.length := by
  have h : q.flatten = (q.take i).flatten ++ (q.drop i).flatten := by rw [← List.flatten_append, List.take_append_drop]
  rw [h, List.length_append]; omega
theorem byt_flat {q : List (List Int)} (h : ∀ s ∈ q, Byt s) : Byt q.flatten := fun z hz => by
  obtain ⟨s, hs, hz⟩ := List.mem_flatten.1 hz
  exact h s hs z hz
theorem byt_set {q : List (List Int)} (h : ∀ s ∈ q, Byt s) {x : Nat} {e : List Int} (he : Byt e) : ∀ s ∈ q.set x e, Byt s := fun s hs => (List.mem_or_eq_of_mem_set hs).elim (h s) (fun k => k ▸ he)
theorem flat_set_le : ∀ {q : List (List Int)} {x : Nat} {e : List Int}, (q.set x e).flatten.length ≤ q.flatten.length + e.length
  | [], x, e => by simp
  | p :: q, 0, e => by simp; omega
  | p :: q, x + 1, e => by
    have := flat_set_le (q := q) (x := x) (e := e)
    simp only [List.set_cons_succ, List.flatten_cons, List.length_append]; omega
theorem rcsG_piece : ∀ {k : Nat} {s : List Int}, ∀ p ∈ rcsG k s, 0 < p.length ∧ p.length ≤ 4
  | 0, _ => fun p hp => by cases hp
  | k + 1, s => fun p hp => by
    rw [rcsG] at hp
    have hz := runeD_size s
    split at hp
    · cases hp
    · rcases List.mem_cons.1 hp with rfl | hp
      · rw [List.length_take]; omega
      · exact rcsG_piece p hp
theorem rcs_piece {s : List Int} {i : Nat} (h : i < (rcs s).length) : 0 < ((rcs s).getD i []).length ∧ ((rcs s).getD i []).length ≤ 4 := by
  have : (rcs s).getD i [] ∈ rcs s := by simp [List.getD, h]
  exact rcsG_piece _ this
theorem getD_set {q : List (List Int)} {y i : Nat} {e : List Int} (hi : i < q.length) : (q.set y e).getD i [] = if i = y then e else q.getD i [] := by
  simp only [List.getD, List.getElem?_set]
  by_cases h : y = i
  · subst h; simp [hi]
  · rw [if_neg h, if_neg (fun k => h k.symm)]
theorem atNo (LA : Option Addr) (nl lc : Nat) (ls : List (List Int)) (x y : Int) (w : World) (hT : Tabs w) (hlr : Rd w LA (strs ls)) (hll : ls.length = nl) (hnl : nl ≤ 1000000) (hBs : Byts ls) (hsz : ∀ s ∈ ls, s.length ≤ 1000000) (hx6 : x ≤ 9223372036854775807) (hno : ¬ (0 ≤ y ∧ y < (nl : Int) ∧ 0 ≤ x ∧ x < ((rcs (ls.getD y.toNat [])).length : Int))) : Ret Tryd.prog 19 [.slice LA nl lc, .agg #[.int .i64 x, .int .i64 y]] w (fun v w' => v = .tuple #[.int .i32 0, .int .i64 4] ∧ Below w.heap.size w w') := by
  by_cases ho : y < 0 ∨ (nl : Int) ≤ y ∨ x < 0
  · exact atOut LA nl lc ls x y w hT hlr hll hnl hBs hsz ho
  · obtain ⟨b, rfl⟩ : ∃ b : Nat, y = b := ⟨y.toNat, by omega⟩
    obtain ⟨a, rfl⟩ : ∃ a : Nat, x = a := ⟨x.toNat, by omega⟩
    simp only [Int.toNat_natCast] at hno
    exact atFar LA nl lc ls a b w hT hlr hll hnl hBs hsz (by omega) (by omega) (by omega)
theorem markNo (LA : Option Addr) (nl lc : Nat) (ls : List (List Int)) (x y r : Int) (w : World) (hT : Tabs w) (hlr : Rd w LA (strs ls)) (hll : ls.length = nl) (hnl : nl ≤ 1000000) (hBs : Byts ls) (hsz : ∀ s ∈ ls, s.length ≤ 1000000) (hs : SgnP r) (hx6 : x ≤ 9223372036854775807) (hno : ¬ (0 ≤ y ∧ y < (nl : Int) ∧ 0 ≤ x ∧ x < ((rcs (ls.getD y.toNat [])).length : Int))) : Ret Tryd.prog 20 [.slice LA nl lc, .agg #[.int .i64 x, .int .i64 y], .int .i32 r] w (fun v w' => v = .tuple #[.slice none 0 0, .int .i64 4] ∧ Below w.heap.size w w') := by
  by_cases ho : y < 0 ∨ (nl : Int) ≤ y ∨ x < 0
  · exact markOut LA nl lc ls x y r w hT hlr hll hnl hBs hsz hs ho
  · obtain ⟨b, rfl⟩ : ∃ b : Nat, y = b := ⟨y.toNat, by omega⟩
    obtain ⟨a, rfl⟩ : ∃ a : Nat, x = a := ⟨x.toNat, by omega⟩
    simp only [Int.toNat_natCast] at hno
    exact markFar LA nl lc ls a b r w hT hlr hll hnl hBs hsz hs (by omega) (by omega) (by omega)
theorem atYesOk (LA : Option Addr) (nl lc : Nat) (ls : List (List Int)) (x y : Nat) (w : World) (hT : Tabs w) (hlr : Rd w LA (strs ls)) (hll : ls.length = nl) (hnl : nl ≤ 1000000) (hBs : Byts ls) (hsz : ∀ s ∈ ls, s.length ≤ 1000000) (hy : y < nl) (hx : x < (rcs (ls.getD y [])).length) (hok : okD ((rcs (ls.getD y [])).getD x []) = true) : Ret Tryd.prog 19 [.slice LA nl lc, .agg #[.int .i64 (x : Int), .int .i64 (y : Int)]] w (fun v w' => v = .tuple #[.int .i32 (runeD ((rcs (ls.getD y [])).getD x [])).1, .int .i64 0] ∧ Below w.heap.size w w') := by
  have h1 := atYes LA nl lc ls x y w hT hlr hll hnl hBs hsz hy hx
  simp only [hok, if_true] at h1
  exact h1
theorem atYesBad (LA : Option Addr) (nl lc : Nat) (ls : List (List Int)) (x y : Nat) (w : World) (hT : Tabs w) (hlr : Rd w LA (strs ls)) (hll : ls.length = nl) (hnl : nl ≤ 1000000) (hBs : Byts ls) (hsz : ∀ s ∈ ls, s.length ≤ 1000000) (hy : y < nl) (hx : x < (rcs (ls.getD y [])).length) (hok : okD ((rcs (ls.getD y [])).getD x []) = false) : Ret Tryd.prog 19 [.slice LA nl lc, .agg #[.int .i64 (x : Int), .int .i64 (y : Int)]] w (fun v w' => v = .tuple #[.int .i32 0, .int .i64 12] ∧ Below w.heap.size w w') := by
  have h1 := atYes LA nl lc ls x y w hT hlr hll hnl hBs hsz hy hx
  simp only [hok, Bool.false_eq_true, if_false] at h1
  exact h1
theorem refRuneOk (s : List Int) (w : World) (hB : Byt s) (h0 : 0 < s.length) (hok : okD s = true) : Ret Tryd.prog 23 [.string (bs s)] w (fun v w' => v = .tuple #[.int .i32 (runeD s).1, .bool true] ∧ Below w.heap.size w w') := by
  have h1 := refRune s w hB h0
  simp only [hok, if_true] at h1
  exact h1
theorem refRuneBad (s : List Int) (w : World) (hB : Byt s) (h0 : 0 < s.length) (hok : okD s = false) : Ret Tryd.prog 23 [.string (bs s)] w (fun v w' => v = .tuple #[.int .i32 0, .bool false] ∧ Below w.heap.size w w') := by
  have h1 := refRune s w hB h0
  simp only [hok, Bool.false_eq_true, if_false] at h1
  exact h1

set_option maxRecDepth 100000 in
set_option maxHeartbeats 2000000 in
theorem chartMarks_no (LA : Option Addr) (nl lc : Nat) (ls : List (List Int)) (x y r : Int) (w : World) (hT : Tabs w) (hlr : Rd w LA (strs ls)) (hll : ls.length = nl) (hBs : Byts ls) (hx6 : x ≤ 9223372036854775807) (hno : ¬ (0 ≤ y ∧ y < (nl : Int) ∧ 0 ≤ x ∧ x < ((rcs (ls.getD y.toNat [])).length : Int))) :
    Ret Tryd.prog 7 [.slice LA nl lc, .agg #[.int .i64 x, .int .i64 y], .int .i32 r] w (fun z w' => z = .bool true ∧ Below w.heap.size w w') := by
 refine ret_enter Tryd.func7 rfl rfl rfl ?_
 have H0 := HS.start w
 refine cw_seq ?_
 refine cw_reg ?_
 refine reg_op (op_box (cs := [.int _ _, .int _ _]) H0 rfl rfl rfl) rfl rfl ?_
 rintro _ w2 ⟨b1, rfl, H3⟩
 refine ry (y_asg rfl rfl) rfl rfl ?_
 refine reg_nil ?_
 refine fn_next ?_
 refine cw_seq ?_
 refine cw_seq ?_
 refine cw_reg ?_
 refine reg_op (op_call (chartAwake _) rfl kflaw34c_1 trivial) rfl rfl ?_
 rintro _ w5 ⟨rfl, e4⟩
 have H6 := H3.ext e4
 refine ry (y_not rfl rfl) rfl rfl ?_
 refine reg_nil ?_
 refine fn_next ?_
 refine cw_condf rfl ?_
 refine cw_skip ?_
 refine fn_next ?_
 refine cw_seq ?_
 refine cw_seq ?_
 refine cw_reg ?_
 refine ry (y_mov rfl rfl) rfl rfl ?_
 refine reg_op (op_call (lLong34 LA nl lc ls 300 _ (hlr.below H6.base) hll) rfl kflaw34c_2 ⟨rfl, rfl, trivial⟩) rfl rfl ?_
 rintro _ w8 ⟨q, rfl, hlg, e7⟩
 have H9 := H6.ext e7
 refine reg_nil ?_
 refine fn_next ?_
 refine cw_cond rfl (fun h10 => ?_) (fun h10 => ?_)
 ·skip
  refine cw_seq ?_
  refine cw_reg ?_
  refine ry (y_asg rfl rfl) rfl rfl ?_
  refine reg_nil ?_
  refine fn_next ?_
  refine cw_ret ?_
  refine fn_then_ret ?_
  refine fn_ret1 rfl rfl ?_
  exact ⟨rfl, H9.base⟩
 ·skip
  have hf := h10
  have hsz : ∀ s ∈ ls, s.length ≤ 1000000 := fun s hs => by obtain ⟨j, hj, rfl⟩ := List.mem_iff_getElem.1 hs; have := (hlg hf).2 j (by omega); rw [List.getD, List.getElem?_eq_getElem hj] at this; simp only [Option.getD_some] at this; omega
  have hnl : nl ≤ 1000000 := by have := (hlg hf).1; omega
  refine cw_skip ?_
  refine fn_next ?_
  refine cw_seq ?_
  refine cw_reg ?_
  refine ry (y_mov rfl rfl) rfl rfl ?_
  refine ry (y_ldb (i := 0) (cs := [_, _]) H9 rfl rfl kflaw34c_3 rfl rfl) rfl rfl ?_
  refine reg_op (op_call (atNo LA nl lc ls x y _ (hT.below hT.size H9.base) (hlr.below H9.base) hll hnl hBs hsz hx6 hno) rfl kflaw34c_4 ⟨rfl, rfl, trivial⟩) rfl rfl ?_
  rintro _ w12 ⟨rfl, e11⟩
  have H13 := H9.ext e11
  refine ry (y_mov rfl rfl) rfl rfl ?_
  refine ry (y_ext rfl rfl rfl) rfl rfl ?_
  refine ry (y_ext rfl rfl rfl) rfl rfl ?_
  refine ry (y_asg rfl rfl) rfl rfl ?_
  refine ry (y_asg rfl rfl) rfl rfl ?_
  refine reg_nil ?_
  refine fn_next ?_
  refine cw_seq ?_
  by_cases hs : SgnP r
  ·skip
   refine cw_reg ?_
   refine ry (y_mov rfl rfl) rfl rfl ?_
   refine ry (y_ldb (i := 0) (cs := [_, _]) H13 rfl rfl kflaw34c_3 rfl rfl) rfl rfl ?_
   refine ry (y_mov rfl rfl) rfl rfl ?_
   refine reg_op (op_call (markNo LA nl lc ls x y r _ (hT.below hT.size H13.base) (hlr.below H13.base) hll hnl hBs hsz hs hx6 hno) rfl kflaw34c_5 ⟨rfl, rfl, rfl, trivial⟩) rfl rfl ?_
   rintro _ w15 ⟨rfl, e14⟩
   have H16 := H13.ext e14
   refine ry (y_mov rfl rfl) rfl rfl ?_
   refine ry (y_ext rfl rfl rfl) rfl rfl ?_
   refine ry (y_ext rfl rfl rfl) rfl rfl ?_
   refine ry (y_asg rfl rfl) rfl rfl ?_
   refine ry (y_asg rfl rfl) rfl rfl ?_
   refine reg_nil ?_
   refine fn_next ?_
   refine cw_seq ?_
   refine cw_reg ?_
   refine reg_op (op_lit (parts := []) (vs := []) (cs := []) H16 rfl Tryd.underlying52 kflaw34c_6 rfl trivial rfl rfl) rfl rfl ?_
   rintro _ w18 ⟨b17, rfl, H19⟩
   have H20 := H19.asrow (m := 0) (size := 1) rfl (by decide)
   refine ry (y_asg rfl rfl) rfl rfl ?_
   refine reg_nil ?_
   refine fn_next ?_
   refine cw_seq ?_
   refine cw_seq ?_
   refine cw_reg ?_
   refine ry (y_fa rfl rfl kflaw34c_7 rfl) rfl rfl ?_
   refine ry (y_ld rfl rfl kflaw34c_8 (H20.cell (i := 1) rfl rfl)) rfl rfl ?_
   refine ry (y_geq rfl rfl rfl) rfl rfl ?_
   refine ry (y_mov rfl rfl) rfl rfl ?_
   refine rg_splitd (d := 40) rfl (fun h21 => ?_) (fun h21 => ?_)
   ·skip
    refine rgy (y_fa rfl rfl kflaw34c_7 rfl) rfl rfl rfl rfl ?_
    refine rgy (y_ld rfl rfl kflaw34c_8 (H20.cell (i := 1) rfl rfl)) rfl rfl rfl rfl ?_
    refine rgy (y_mov rfl rfl) rfl rfl rfl rfl ?_
    refine rgy (y_len rfl Tryd.underlying52 rfl) rfl rfl rfl rfl ?_
    refine rgy (y_lss rfl rfl rfl) rfl rfl rfl rfl ?_
    refine ry (y_pick rfl rfl rfl) rfl rfl ?_
    refine reg_nil ?_
    refine fn_next ?_
    refine cw_condd rfl (fun h22 => ?_) (fun h22 => ?_)
    ·skip
     have gs := strs_get (ls := ls) (i := y.toNat) (by omega)
     refine cw_reg ?_
     refine ry (y_mov rfl rfl) rfl rfl ?_
     refine ry (y_fa rfl rfl kflaw34c_7 rfl) rfl rfl ?_
     refine ry (y_ld rfl rfl kflaw34c_8 (H20.cell (i := 1) rfl rfl)) rfl rfl ?_
     refine ry (y_iar (i := y.toNat) (hlr.below H20.base) rfl rfl rfl kflaw34c_9 (by omega) (by omega) (Nat.mul_one _) (gs)) rfl rfl ?_
     refine ry (y_ldr (hlr.below H20.base) rfl rfl kflaw34c_10 (gs)) rfl rfl ?_
     refine reg_op (op_call (refRunes (ls.getD y.toNat []) _ (hBs.at_ (by omega)) (getD_len hsz (by omega))) rfl kflaw34c_11 ⟨rfl, trivial⟩) rfl rfl ?_
     rintro _ w24 ⟨A26, c27, rfl, k23⟩
     have H25 := H20.call k23
     refine ry (y_asg rfl rfl) rfl rfl ?_
     refine reg_nil ?_
     refine fn_next ?_
     refine cw_seq ?_
     refine cw_reg ?_
     refine ry (y_fa rfl rfl kflaw34c_12 rfl) rfl rfl ?_
     refine ry (y_ld rfl rfl kflaw34c_8 (H25.cell (i := 2) rfl rfl)) rfl rfl ?_
     refine ry (y_geq rfl rfl rfl) rfl rfl ?_
     refine ry (y_mov rfl rfl) rfl rfl ?_
     refine rg_splitd (d := 56) rfl (fun h28 => ?_) (fun h28 => ?_)
     ·skip
      refine rgy (y_fa rfl rfl kflaw34c_12 rfl) rfl rfl rfl rfl ?_
      refine rgy (y_ld rfl rfl kflaw34c_8 (H25.cell (i := 2) rfl rfl)) rfl rfl rfl rfl ?_
      refine rgy (y_mov rfl rfl) rfl rfl rfl rfl ?_
      refine rgy (y_len rfl Tryd.underlying52 rfl) rfl rfl rfl rfl ?_
      refine rgy (y_lss rfl rfl rfl) rfl rfl rfl rfl ?_
      refine ry (y_pick rfl rfl rfl) rfl rfl ?_
      refine ry (y_asg rfl rfl) rfl rfl ?_
      refine reg_nil ?_
      refine fn_next ?_
      refine cw_seq ?_
      refine cw_seq ?_
      refine cw_reg ?_
      refine ry (y_mov rfl rfl) rfl rfl ?_
      refine ry (y_notd rfl rfl) rfl rfl ?_
      refine reg_nil ?_
      refine fn_next ?_
      refine cw_condd rfl (fun h29 => ?_) (fun h29 => ?_)
      ·skip
       refine cw_seq ?_
       refine cw_reg ?_
       refine ry (y_asg rfl rfl) rfl rfl ?_
       refine reg_nil ?_
       refine fn_next ?_
       refine cw_seq ?_
       refine cw_seq ?_
       refine cw_reg ?_
       refine ry (y_mov rfl rfl) rfl rfl ?_
       refine reg_op (op_call (refSign3 r _) rfl kflaw34c_13 ⟨rfl, trivial⟩) rfl rfl ?_
       rintro _ w31 ⟨rfl, e30⟩
       have H32 := H25.ext e30
       refine ry (y_notd rfl rfl) rfl rfl ?_
       refine reg_nil ?_
       refine fn_next ?_
       refine cw_condd rfl (fun h33 => ?_) (fun h33 => ?_)
       · exact absurd hs h33
       ·skip
        refine cw_skip ?_
        refine fn_next ?_
        refine cw_seq ?_
        refine cw_reg ?_
        refine ry (y_mov rfl rfl) rfl rfl ?_
        refine ry (y_eql rfl rfl rfl) rfl rfl ?_
        refine ry (y_mov rfl rfl) rfl rfl ?_
        refine rgy (y_mov rfl rfl) rfl rfl rfl rfl ?_
        refine rgy (y_eql rfl rfl rfl) rfl rfl rfl rfl ?_
        refine ry (y_pick rfl rfl rfl) rfl rfl ?_
        refine ry (y_mov rfl rfl) rfl rfl ?_
        refine rgy (y_mov rfl rfl) rfl rfl rfl rfl ?_
        refine rgy (y_len rfl Tryd.underlying52 rfl) rfl rfl rfl rfl ?_
        refine rgy (y_eql rfl rfl rfl) rfl rfl rfl rfl ?_
        refine ry (y_pick rfl rfl rfl) rfl rfl ?_
        refine ry (y_mov rfl rfl) rfl rfl ?_
        refine rgy (y_mov rfl rfl) rfl rfl rfl rfl ?_
        refine rgy (y_mov rfl rfl) rfl rfl rfl rfl ?_
        refine rgy (y_eql rfl rfl rfl) rfl rfl rfl rfl ?_
        refine ry (y_pick rfl rfl rfl) rfl rfl ?_
        refine ry (y_asg rfl rfl) rfl rfl ?_
        refine reg_nil ?_
        refine fn_next ?_
        refine cw_ret ?_
        refine fn_then_ret ?_
        refine fn_ret1 rfl rfl ?_
        exact ⟨rfl, H32.base⟩
      · exact (hno ⟨by omega, by omega, by omega, by omega⟩).elim
     ·skip
      refine rg_off rfl rfl rfl rfl rfl ?_
      refine rg_off rfl rfl rfl rfl rfl ?_
      refine rg_off rfl rfl rfl rfl rfl ?_
      refine rg_off rfl rfl rfl rfl rfl ?_
      refine rg_off rfl rfl rfl rfl rfl ?_
      refine ry (y_pick rfl rfl rfl) rfl rfl ?_
      refine ry (y_asg rfl rfl) rfl rfl ?_
      refine reg_nil ?_
      refine fn_next ?_
      refine cw_seq ?_
      refine cw_seq ?_
      refine cw_reg ?_
      refine ry (y_mov rfl rfl) rfl rfl ?_
      refine ry (y_not rfl rfl) rfl rfl ?_
      refine reg_nil ?_
      refine fn_next ?_
      refine cw_condt rfl ?_
      refine cw_seq ?_
      refine cw_reg ?_
      refine ry (y_asg rfl rfl) rfl rfl ?_
      refine reg_nil ?_
      refine fn_next ?_
      refine cw_seq ?_
      refine cw_seq ?_
      refine cw_reg ?_
      refine ry (y_mov rfl rfl) rfl rfl ?_
      refine reg_op (op_call (refSign3 r _) rfl kflaw34c_13 ⟨rfl, trivial⟩) rfl rfl ?_
      rintro _ w35 ⟨rfl, e34⟩
      have H36 := H25.ext e34
      refine ry (y_notd rfl rfl) rfl rfl ?_
      refine reg_nil ?_
      refine fn_next ?_
      refine cw_condd rfl (fun h37 => ?_) (fun h37 => ?_)
      · exact absurd hs h37
      ·skip
       refine cw_skip ?_
       refine fn_next ?_
       refine cw_seq ?_
       refine cw_reg ?_
       refine ry (y_mov rfl rfl) rfl rfl ?_
       refine ry (y_eql rfl rfl rfl) rfl rfl ?_
       refine ry (y_mov rfl rfl) rfl rfl ?_
       refine rgy (y_mov rfl rfl) rfl rfl rfl rfl ?_
       refine rgy (y_eql rfl rfl rfl) rfl rfl rfl rfl ?_
       refine ry (y_pick rfl rfl rfl) rfl rfl ?_
       refine ry (y_mov rfl rfl) rfl rfl ?_
       refine rgy (y_mov rfl rfl) rfl rfl rfl rfl ?_
       refine rgy (y_len rfl Tryd.underlying52 rfl) rfl rfl rfl rfl ?_
       refine rgy (y_eql rfl rfl rfl) rfl rfl rfl rfl ?_
       refine ry (y_pick rfl rfl rfl) rfl rfl ?_
       refine ry (y_mov rfl rfl) rfl rfl ?_
       refine rgy (y_mov rfl rfl) rfl rfl rfl rfl ?_
       refine rgy (y_mov rfl rfl) rfl rfl rfl rfl ?_
       refine rgy (y_eql rfl rfl rfl) rfl rfl rfl rfl ?_
       refine ry (y_pick rfl rfl rfl) rfl rfl ?_
       refine ry (y_asg rfl rfl) rfl rfl ?_
       refine reg_nil ?_
       refine fn_next ?_
       refine cw_ret ?_
       refine fn_then_ret ?_
       refine fn_ret1 rfl rfl ?_
       exact ⟨rfl, H36.base⟩
    ·skip
     refine cw_skip ?_
     refine fn_next ?_
     refine cw_seq ?_
     refine cw_reg ?_
     refine ry (y_fa rfl rfl kflaw34c_12 rfl) rfl rfl ?_
     refine ry (y_ld rfl rfl kflaw34c_8 (H20.cell (i := 1) rfl rfl)) rfl rfl ?_
     refine ry (y_geq rfl rfl rfl) rfl rfl ?_
     refine ry (y_mov rfl rfl) rfl rfl ?_
     refine rg_splitd (d := 56) rfl (fun h38 => ?_) (fun h38 => ?_)
     ·skip
      refine rgy (y_fa rfl rfl kflaw34c_12 rfl) rfl rfl rfl rfl ?_
      refine rgy (y_ld rfl rfl kflaw34c_8 (H20.cell (i := 1) rfl rfl)) rfl rfl rfl rfl ?_
      refine rgy (y_mov rfl rfl) rfl rfl rfl rfl ?_
      refine rgy (y_len rfl Tryd.underlying52 rfl) rfl rfl rfl rfl ?_
      refine rgy (y_lss rfl rfl rfl) rfl rfl rfl rfl ?_
      refine ry (y_pick rfl rfl rfl) rfl rfl ?_
      refine ry (y_asg rfl rfl) rfl rfl ?_
      refine reg_nil ?_
      refine fn_next ?_
      refine cw_seq ?_
      refine cw_seq ?_
      refine cw_reg ?_
      refine ry (y_mov rfl rfl) rfl rfl ?_
      refine ry (y_notd rfl rfl) rfl rfl ?_
      refine reg_nil ?_
      refine fn_next ?_
      refine cw_condd rfl (fun h39 => ?_) (fun h39 => ?_)
      ·skip
       refine cw_seq ?_
       refine cw_reg ?_
       refine ry (y_asg rfl rfl) rfl rfl ?_
       refine reg_nil ?_
       refine fn_next ?_
       refine cw_seq ?_
       refine cw_seq ?_
       refine cw_reg ?_
       refine ry (y_mov rfl rfl) rfl rfl ?_
       refine reg_op (op_call (refSign3 r _) rfl kflaw34c_13 ⟨rfl, trivial⟩) rfl rfl ?_
       rintro _ w41 ⟨rfl, e40⟩
       have H42 := H20.ext e40
       refine ry (y_notd rfl rfl) rfl rfl ?_
       refine reg_nil ?_
       refine fn_next ?_
       refine cw_condd rfl (fun h43 => ?_) (fun h43 => ?_)
       · exact absurd hs h43
       ·skip
        refine cw_skip ?_
        refine fn_next ?_
        refine cw_seq ?_
        refine cw_reg ?_
        refine ry (y_mov rfl rfl) rfl rfl ?_
        refine ry (y_eql rfl rfl rfl) rfl rfl ?_
        refine ry (y_mov rfl rfl) rfl rfl ?_
        refine rgy (y_mov rfl rfl) rfl rfl rfl rfl ?_
        refine rgy (y_eql rfl rfl rfl) rfl rfl rfl rfl ?_
        refine ry (y_pick rfl rfl rfl) rfl rfl ?_
        refine ry (y_mov rfl rfl) rfl rfl ?_
        refine rgy (y_mov rfl rfl) rfl rfl rfl rfl ?_
        refine rgy (y_len rfl Tryd.underlying52 rfl) rfl rfl rfl rfl ?_
        refine rgy (y_eql rfl rfl rfl) rfl rfl rfl rfl ?_
        refine ry (y_pick rfl rfl rfl) rfl rfl ?_
        refine ry (y_mov rfl rfl) rfl rfl ?_
        refine rgy (y_mov rfl rfl) rfl rfl rfl rfl ?_
        refine rgy (y_mov rfl rfl) rfl rfl rfl rfl ?_
        refine rgy (y_eql rfl rfl rfl) rfl rfl rfl rfl ?_
        refine ry (y_pick rfl rfl rfl) rfl rfl ?_
        refine ry (y_asg rfl rfl) rfl rfl ?_
        refine reg_nil ?_
        refine fn_next ?_
        refine cw_ret ?_
        refine fn_then_ret ?_
        refine fn_ret1 rfl rfl ?_
        exact ⟨rfl, H42.base⟩
      · exact (hno ⟨by omega, by omega, by omega, by omega⟩).elim
     ·skip
      refine rg_off rfl rfl rfl rfl rfl ?_
      refine rg_off rfl rfl rfl rfl rfl ?_
      refine rg_off rfl rfl rfl rfl rfl ?_
      refine rg_off rfl rfl rfl rfl rfl ?_
      refine rg_off rfl rfl rfl rfl rfl ?_
      refine ry (y_pick rfl rfl rfl) rfl rfl ?_
      refine ry (y_asg rfl rfl) rfl rfl ?_
      refine reg_nil ?_
      refine fn_next ?_
      refine cw_seq ?_
      refine cw_seq ?_
      refine cw_reg ?_
      refine ry (y_mov rfl rfl) rfl rfl ?_
      refine ry (y_not rfl rfl) rfl rfl ?_
      refine reg_nil ?_
      refine fn_next ?_
      refine cw_condt rfl ?_
      refine cw_seq ?_
      refine cw_reg ?_
      refine ry (y_asg rfl rfl) rfl rfl ?_
      refine reg_nil ?_
      refine fn_next ?_
      refine cw_seq ?_
      refine cw_seq ?_
      refine cw_reg ?_
      refine ry (y_mov rfl rfl) rfl rfl ?_
      refine reg_op (op_call (refSign3 r _) rfl kflaw34c_13 ⟨rfl, trivial⟩) rfl rfl ?_
      rintro _ w45 ⟨rfl, e44⟩
      have H46 := H20.ext e44
      refine ry (y_notd rfl rfl) rfl rfl ?_
      refine reg_nil ?_
      refine fn_next ?_
      refine cw_condd rfl (fun h47 => ?_) (fun h47 => ?_)
      · exact absurd hs h47
      ·skip
       refine cw_skip ?_
       refine fn_next ?_
       refine cw_seq ?_
       refine cw_reg ?_
       refine ry (y_mov rfl rfl) rfl rfl ?_
       refine ry (y_eql rfl rfl rfl) rfl rfl ?_
       refine ry (y_mov rfl rfl) rfl rfl ?_
       refine rgy (y_mov rfl rfl) rfl rfl rfl rfl ?_
       refine rgy (y_eql rfl rfl rfl) rfl rfl rfl rfl ?_
       refine ry (y_pick rfl rfl rfl) rfl rfl ?_
       refine ry (y_mov rfl rfl) rfl rfl ?_
       refine rgy (y_mov rfl rfl) rfl rfl rfl rfl ?_
       refine rgy (y_len rfl Tryd.underlying52 rfl) rfl rfl rfl rfl ?_
       refine rgy (y_eql rfl rfl rfl) rfl rfl rfl rfl ?_
       refine ry (y_pick rfl rfl rfl) rfl rfl ?_
       refine ry (y_mov rfl rfl) rfl rfl ?_
       refine rgy (y_mov rfl rfl) rfl rfl rfl rfl ?_
       refine rgy (y_mov rfl rfl) rfl rfl rfl rfl ?_
       refine rgy (y_eql rfl rfl rfl) rfl rfl rfl rfl ?_
       refine ry (y_pick rfl rfl rfl) rfl rfl ?_
       refine ry (y_asg rfl rfl) rfl rfl ?_
       refine reg_nil ?_
       refine fn_next ?_
       refine cw_ret ?_
       refine fn_then_ret ?_
       refine fn_ret1 rfl rfl ?_
       exact ⟨rfl, H46.base⟩
   ·skip
    refine rg_off rfl rfl rfl rfl rfl ?_
    refine rg_off rfl rfl rfl rfl rfl ?_
    refine rg_off rfl rfl rfl rfl rfl ?_
    refine rg_off rfl rfl rfl rfl rfl ?_
    refine rg_off rfl rfl rfl rfl rfl ?_
    refine ry (y_pick rfl rfl rfl) rfl rfl ?_
    refine reg_nil ?_
    refine fn_next ?_
    refine cw_condf rfl ?_
    refine cw_skip ?_
    refine fn_next ?_
    refine cw_seq ?_
    refine cw_reg ?_
    refine ry (y_fa rfl rfl kflaw34c_12 rfl) rfl rfl ?_
    refine ry (y_ld rfl rfl kflaw34c_8 (H20.cell (i := 1) rfl rfl)) rfl rfl ?_
    refine ry (y_geq rfl rfl rfl) rfl rfl ?_
    refine ry (y_mov rfl rfl) rfl rfl ?_
    refine rg_splitd (d := 56) rfl (fun h48 => ?_) (fun h48 => ?_)
    ·skip
     refine rgy (y_fa rfl rfl kflaw34c_12 rfl) rfl rfl rfl rfl ?_
     refine rgy (y_ld rfl rfl kflaw34c_8 (H20.cell (i := 1) rfl rfl)) rfl rfl rfl rfl ?_
     refine rgy (y_mov rfl rfl) rfl rfl rfl rfl ?_
     refine rgy (y_len rfl Tryd.underlying52 rfl) rfl rfl rfl rfl ?_
     refine rgy (y_lss rfl rfl rfl) rfl rfl rfl rfl ?_
     refine ry (y_pick rfl rfl rfl) rfl rfl ?_
     refine ry (y_asg rfl rfl) rfl rfl ?_
     refine reg_nil ?_
     refine fn_next ?_
     refine cw_seq ?_
     refine cw_seq ?_
     refine cw_reg ?_
     refine ry (y_mov rfl rfl) rfl rfl ?_
     refine ry (y_notd rfl rfl) rfl rfl ?_
     refine reg_nil ?_
     refine fn_next ?_
     refine cw_condd rfl (fun h49 => ?_) (fun h49 => ?_)
     ·skip
      refine cw_seq ?_
      refine cw_reg ?_
      refine ry (y_asg rfl rfl) rfl rfl ?_
      refine reg_nil ?_
      refine fn_next ?_
      refine cw_seq ?_
      refine cw_seq ?_
      refine cw_reg ?_
      refine ry (y_mov rfl rfl) rfl rfl ?_
      refine reg_op (op_call (refSign3 r _) rfl kflaw34c_13 ⟨rfl, trivial⟩) rfl rfl ?_
      rintro _ w51 ⟨rfl, e50⟩
      have H52 := H20.ext e50
      refine ry (y_notd rfl rfl) rfl rfl ?_
      refine reg_nil ?_
      refine fn_next ?_
      refine cw_condd rfl (fun h53 => ?_) (fun h53 => ?_)
      · exact absurd hs h53
      ·skip
       refine cw_skip ?_
       refine fn_next ?_
       refine cw_seq ?_
       refine cw_reg ?_
       refine ry (y_mov rfl rfl) rfl rfl ?_
       refine ry (y_eql rfl rfl rfl) rfl rfl ?_
       refine ry (y_mov rfl rfl) rfl rfl ?_
       refine rgy (y_mov rfl rfl) rfl rfl rfl rfl ?_
       refine rgy (y_eql rfl rfl rfl) rfl rfl rfl rfl ?_
       refine ry (y_pick rfl rfl rfl) rfl rfl ?_
       refine ry (y_mov rfl rfl) rfl rfl ?_
       refine rgy (y_mov rfl rfl) rfl rfl rfl rfl ?_
       refine rgy (y_len rfl Tryd.underlying52 rfl) rfl rfl rfl rfl ?_
       refine rgy (y_eql rfl rfl rfl) rfl rfl rfl rfl ?_
       refine ry (y_pick rfl rfl rfl) rfl rfl ?_
       refine ry (y_mov rfl rfl) rfl rfl ?_
       refine rgy (y_mov rfl rfl) rfl rfl rfl rfl ?_
       refine rgy (y_mov rfl rfl) rfl rfl rfl rfl ?_
       refine rgy (y_eql rfl rfl rfl) rfl rfl rfl rfl ?_
       refine ry (y_pick rfl rfl rfl) rfl rfl ?_
       refine ry (y_asg rfl rfl) rfl rfl ?_
       refine reg_nil ?_
       refine fn_next ?_
       refine cw_ret ?_
       refine fn_then_ret ?_
       refine fn_ret1 rfl rfl ?_
       exact ⟨rfl, H52.base⟩
     · exact (hno ⟨by omega, by omega, by omega, by omega⟩).elim
    ·skip
     refine rg_off rfl rfl rfl rfl rfl ?_
     refine rg_off rfl rfl rfl rfl rfl ?_
     refine rg_off rfl rfl rfl rfl rfl ?_
     refine rg_off rfl rfl rfl rfl rfl ?_
     refine rg_off rfl rfl rfl rfl rfl ?_
     refine ry (y_pick rfl rfl rfl) rfl rfl ?_
     refine ry (y_asg rfl rfl) rfl rfl ?_
     refine reg_nil ?_
     refine fn_next ?_
     refine cw_seq ?_
     refine cw_seq ?_
     refine cw_reg ?_
     refine ry (y_mov rfl rfl) rfl rfl ?_
     refine ry (y_not rfl rfl) rfl rfl ?_
     refine reg_nil ?_
     refine fn_next ?_
     refine cw_condt rfl ?_
     refine cw_seq ?_
     refine cw_reg ?_
     refine ry (y_asg rfl rfl) rfl rfl ?_
     refine reg_nil ?_
     refine fn_next ?_
     refine cw_seq ?_
     refine cw_seq ?_
     refine cw_reg ?_
     refine ry (y_mov rfl rfl) rfl rfl ?_
     refine reg_op (op_call (refSign3 r _) rfl kflaw34c_13 ⟨rfl, trivial⟩) rfl rfl ?_
     rintro _ w55 ⟨rfl, e54⟩
     have H56 := H20.ext e54
     refine ry (y_notd rfl rfl) rfl rfl ?_
     refine reg_nil ?_
     refine fn_next ?_
     refine cw_condd rfl (fun h57 => ?_) (fun h57 => ?_)
     · exact absurd hs h57
     ·skip
      refine cw_skip ?_
      refine fn_next ?_
      refine cw_seq ?_
      refine cw_reg ?_
      refine ry (y_mov rfl rfl) rfl rfl ?_
      refine ry (y_eql rfl rfl rfl) rfl rfl ?_
      refine ry (y_mov rfl rfl) rfl rfl ?_
      refine rgy (y_mov rfl rfl) rfl rfl rfl rfl ?_
      refine rgy (y_eql rfl rfl rfl) rfl rfl rfl rfl ?_
      refine ry (y_pick rfl rfl rfl) rfl rfl ?_
      refine ry (y_mov rfl rfl) rfl rfl ?_
      refine rgy (y_mov rfl rfl) rfl rfl rfl rfl ?_
      refine rgy (y_len rfl Tryd.underlying52 rfl) rfl rfl rfl rfl ?_
      refine rgy (y_eql rfl rfl rfl) rfl rfl rfl rfl ?_
      refine ry (y_pick rfl rfl rfl) rfl rfl ?_
      refine ry (y_mov rfl rfl) rfl rfl ?_
      refine rgy (y_mov rfl rfl) rfl rfl rfl rfl ?_
      refine rgy (y_mov rfl rfl) rfl rfl rfl rfl ?_
      refine rgy (y_eql rfl rfl rfl) rfl rfl rfl rfl ?_
      refine ry (y_pick rfl rfl rfl) rfl rfl ?_
      refine ry (y_asg rfl rfl) rfl rfl ?_
      refine reg_nil ?_
      refine fn_next ?_
      refine cw_ret ?_
      refine fn_then_ret ?_
      refine fn_ret1 rfl rfl ?_
      exact ⟨rfl, H56.base⟩
  ·skip
   refine cw_reg ?_
   refine ry (y_mov rfl rfl) rfl rfl ?_
   refine ry (y_ldb (i := 0) (cs := [_, _]) H13 rfl rfl kflaw34c_3 rfl rfl) rfl rfl ?_
   refine ry (y_mov rfl rfl) rfl rfl ?_
   refine reg_op (op_call (markForm LA nl lc x y r _ hs) rfl kflaw34c_5 ⟨rfl, rfl, rfl, trivial⟩) rfl rfl ?_
   rintro _ w59 ⟨rfl, e58⟩
   have H60 := H13.ext e58
   refine ry (y_mov rfl rfl) rfl rfl ?_
   refine ry (y_ext rfl rfl rfl) rfl rfl ?_
   refine ry (y_ext rfl rfl rfl) rfl rfl ?_
   refine ry (y_asg rfl rfl) rfl rfl ?_
   refine ry (y_asg rfl rfl) rfl rfl ?_
   refine reg_nil ?_
   refine fn_next ?_
   refine cw_seq ?_
   refine cw_reg ?_
   refine reg_op (op_lit (parts := []) (vs := []) (cs := []) H60 rfl Tryd.underlying52 kflaw34c_6 rfl trivial rfl rfl) rfl rfl ?_
   rintro _ w62 ⟨b61, rfl, H63⟩
   have H64 := H63.asrow (m := 0) (size := 1) rfl (by decide)
   refine ry (y_asg rfl rfl) rfl rfl ?_
   refine reg_nil ?_
   refine fn_next ?_
   refine cw_seq ?_
   refine cw_seq ?_
   refine cw_reg ?_
   refine ry (y_fa rfl rfl kflaw34c_7 rfl) rfl rfl ?_
   refine ry (y_ld rfl rfl kflaw34c_8 (H64.cell (i := 1) rfl rfl)) rfl rfl ?_
   refine ry (y_geq rfl rfl rfl) rfl rfl ?_
   refine ry (y_mov rfl rfl) rfl rfl ?_
   refine rg_splitd (d := 40) rfl (fun h65 => ?_) (fun h65 => ?_)
   ·skip
    refine rgy (y_fa rfl rfl kflaw34c_7 rfl) rfl rfl rfl rfl ?_
    refine rgy (y_ld rfl rfl kflaw34c_8 (H64.cell (i := 1) rfl rfl)) rfl rfl rfl rfl ?_
    refine rgy (y_mov rfl rfl) rfl rfl rfl rfl ?_
    refine rgy (y_len rfl Tryd.underlying52 rfl) rfl rfl rfl rfl ?_
    refine rgy (y_lss rfl rfl rfl) rfl rfl rfl rfl ?_
    refine ry (y_pick rfl rfl rfl) rfl rfl ?_
    refine reg_nil ?_
    refine fn_next ?_
    refine cw_condd rfl (fun h66 => ?_) (fun h66 => ?_)
    ·skip
     have gs := strs_get (ls := ls) (i := y.toNat) (by omega)
     refine cw_reg ?_
     refine ry (y_mov rfl rfl) rfl rfl ?_
     refine ry (y_fa rfl rfl kflaw34c_7 rfl) rfl rfl ?_
     refine ry (y_ld rfl rfl kflaw34c_8 (H64.cell (i := 1) rfl rfl)) rfl rfl ?_
     refine ry (y_iar (i := y.toNat) (hlr.below H64.base) rfl rfl rfl kflaw34c_9 (by omega) (by omega) (Nat.mul_one _) (gs)) rfl rfl ?_
     refine ry (y_ldr (hlr.below H64.base) rfl rfl kflaw34c_10 (gs)) rfl rfl ?_
     refine reg_op (op_call (refRunes (ls.getD y.toNat []) _ (hBs.at_ (by omega)) (getD_len hsz (by omega))) rfl kflaw34c_11 ⟨rfl, trivial⟩) rfl rfl ?_
     rintro _ w68 ⟨A70, c71, rfl, k67⟩
     have H69 := H64.call k67
     refine ry (y_asg rfl rfl) rfl rfl ?_
     refine reg_nil ?_
     refine fn_next ?_
     refine cw_seq ?_
     refine cw_reg ?_
     refine ry (y_fa rfl rfl kflaw34c_12 rfl) rfl rfl ?_
     refine ry (y_ld rfl rfl kflaw34c_8 (H69.cell (i := 2) rfl rfl)) rfl rfl ?_
     refine ry (y_geq rfl rfl rfl) rfl rfl ?_
     refine ry (y_mov rfl rfl) rfl rfl ?_
     refine rg_splitd (d := 56) rfl (fun h72 => ?_) (fun h72 => ?_)
     ·skip
      refine rgy (y_fa rfl rfl kflaw34c_12 rfl) rfl rfl rfl rfl ?_
      refine rgy (y_ld rfl rfl kflaw34c_8 (H69.cell (i := 2) rfl rfl)) rfl rfl rfl rfl ?_
      refine rgy (y_mov rfl rfl) rfl rfl rfl rfl ?_
      refine rgy (y_len rfl Tryd.underlying52 rfl) rfl rfl rfl rfl ?_
      refine rgy (y_lss rfl rfl rfl) rfl rfl rfl rfl ?_
      refine ry (y_pick rfl rfl rfl) rfl rfl ?_
      refine ry (y_asg rfl rfl) rfl rfl ?_
      refine reg_nil ?_
      refine fn_next ?_
      refine cw_seq ?_
      refine cw_seq ?_
      refine cw_reg ?_
      refine ry (y_mov rfl rfl) rfl rfl ?_
      refine ry (y_notd rfl rfl) rfl rfl ?_
      refine reg_nil ?_
      refine fn_next ?_
      refine cw_condd rfl (fun h73 => ?_) (fun h73 => ?_)
      ·skip
       refine cw_seq ?_
       refine cw_reg ?_
       refine ry (y_asg rfl rfl) rfl rfl ?_
       refine reg_nil ?_
       refine fn_next ?_
       refine cw_seq ?_
       refine cw_seq ?_
       refine cw_reg ?_
       refine ry (y_mov rfl rfl) rfl rfl ?_
       refine reg_op (op_call (refSign3 r _) rfl kflaw34c_13 ⟨rfl, trivial⟩) rfl rfl ?_
       rintro _ w75 ⟨rfl, e74⟩
       have H76 := H69.ext e74
       refine ry (y_notd rfl rfl) rfl rfl ?_
       refine reg_nil ?_
       refine fn_next ?_
       refine cw_condd rfl (fun h77 => ?_) (fun h77 => ?_)
       ·skip
        refine cw_reg ?_
        refine ry (y_asg rfl rfl) rfl rfl ?_
        refine reg_nil ?_
        refine fn_next ?_
        refine cw_seq ?_
        refine cw_reg ?_
        refine ry (y_mov rfl rfl) rfl rfl ?_
        refine ry (y_eql rfl rfl rfl) rfl rfl ?_
        refine ry (y_mov rfl rfl) rfl rfl ?_
        refine rgy (y_mov rfl rfl) rfl rfl rfl rfl ?_
        refine rgy (y_eql rfl rfl rfl) rfl rfl rfl rfl ?_
        refine ry (y_pick rfl rfl rfl) rfl rfl ?_
        refine ry (y_mov rfl rfl) rfl rfl ?_
        refine rgy (y_mov rfl rfl) rfl rfl rfl rfl ?_
        refine rgy (y_len rfl Tryd.underlying52 rfl) rfl rfl rfl rfl ?_
        refine rgy (y_eql rfl rfl rfl) rfl rfl rfl rfl ?_
        refine ry (y_pick rfl rfl rfl) rfl rfl ?_
        refine ry (y_mov rfl rfl) rfl rfl ?_
        refine rgy (y_mov rfl rfl) rfl rfl rfl rfl ?_
        refine rgy (y_mov rfl rfl) rfl rfl rfl rfl ?_
        refine rgy (y_eql rfl rfl rfl) rfl rfl rfl rfl ?_
        refine ry (y_pick rfl rfl rfl) rfl rfl ?_
        refine ry (y_asg rfl rfl) rfl rfl ?_
        refine reg_nil ?_
        refine fn_next ?_
        refine cw_ret ?_
        refine fn_then_ret ?_
        refine fn_ret1 rfl rfl ?_
        exact ⟨rfl, H76.base⟩
       · exact absurd (Classical.not_not.1 h77) hs
      · exact (hno ⟨by omega, by omega, by omega, by omega⟩).elim
     ·skip
      refine rg_off rfl rfl rfl rfl rfl ?_
      refine rg_off rfl rfl rfl rfl rfl ?_
      refine rg_off rfl rfl rfl rfl rfl ?_
      refine rg_off rfl rfl rfl rfl rfl ?_
      refine rg_off rfl rfl rfl rfl rfl ?_
      refine ry (y_pick rfl rfl rfl) rfl rfl ?_
      refine ry (y_asg rfl rfl) rfl rfl ?_
      refine reg_nil ?_
      refine fn_next ?_
      refine cw_seq ?_
      refine cw_seq ?_
      refine cw_reg ?_
      refine ry (y_mov rfl rfl) rfl rfl ?_
      refine ry (y_not rfl rfl) rfl rfl ?_
      refine reg_nil ?_
      refine fn_next ?_
      refine cw_condt rfl ?_
      refine cw_seq ?_
      refine cw_reg ?_
      refine ry (y_asg rfl rfl) rfl rfl ?_
      refine reg_nil ?_
      refine fn_next ?_
      refine cw_seq ?_
      refine cw_seq ?_
      refine cw_reg ?_
      refine ry (y_mov rfl rfl) rfl rfl ?_
      refine reg_op (op_call (refSign3 r _) rfl kflaw34c_13 ⟨rfl, trivial⟩) rfl rfl ?_
      rintro _ w79 ⟨rfl, e78⟩
      have H80 := H69.ext e78
      refine ry (y_notd rfl rfl) rfl rfl ?_
      refine reg_nil ?_
      refine fn_next ?_
      refine cw_condd rfl (fun h81 => ?_) (fun h81 => ?_)
      ·skip
       refine cw_reg ?_
       refine ry (y_asg rfl rfl) rfl rfl ?_
       refine reg_nil ?_
       refine fn_next ?_
       refine cw_seq ?_
       refine cw_reg ?_
       refine ry (y_mov rfl rfl) rfl rfl ?_
       refine ry (y_eql rfl rfl rfl) rfl rfl ?_
       refine ry (y_mov rfl rfl) rfl rfl ?_
       refine rgy (y_mov rfl rfl) rfl rfl rfl rfl ?_
       refine rgy (y_eql rfl rfl rfl) rfl rfl rfl rfl ?_
       refine ry (y_pick rfl rfl rfl) rfl rfl ?_
       refine ry (y_mov rfl rfl) rfl rfl ?_
       refine rgy (y_mov rfl rfl) rfl rfl rfl rfl ?_
       refine rgy (y_len rfl Tryd.underlying52 rfl) rfl rfl rfl rfl ?_
       refine rgy (y_eql rfl rfl rfl) rfl rfl rfl rfl ?_
       refine ry (y_pick rfl rfl rfl) rfl rfl ?_
       refine ry (y_mov rfl rfl) rfl rfl ?_
       refine rgy (y_mov rfl rfl) rfl rfl rfl rfl ?_
       refine rgy (y_mov rfl rfl) rfl rfl rfl rfl ?_
       refine rgy (y_eql rfl rfl rfl) rfl rfl rfl rfl ?_
       refine ry (y_pick rfl rfl rfl) rfl rfl ?_
       refine ry (y_asg rfl rfl) rfl rfl ?_
       refine reg_nil ?_
       refine fn_next ?_
       refine cw_ret ?_
       refine fn_then_ret ?_
       refine fn_ret1 rfl rfl ?_
       exact ⟨rfl, H80.base⟩
      · exact absurd (Classical.not_not.1 h81) hs
    ·skip
     refine cw_skip ?_
     refine fn_next ?_
     refine cw_seq ?_
     refine cw_reg ?_
     refine ry (y_fa rfl rfl kflaw34c_12 rfl) rfl rfl ?_
     refine ry (y_ld rfl rfl kflaw34c_8 (H64.cell (i := 1) rfl rfl)) rfl rfl ?_
     refine ry (y_geq rfl rfl rfl) rfl rfl ?_
     refine ry (y_mov rfl rfl) rfl rfl ?_
     refine rg_splitd (d := 56) rfl (fun h82 => ?_) (fun h82 => ?_)
     ·skip
      refine rgy (y_fa rfl rfl kflaw34c_12 rfl) rfl rfl rfl rfl ?_
      refine rgy (y_ld rfl rfl kflaw34c_8 (H64.cell (i := 1) rfl rfl)) rfl rfl rfl rfl ?_
      refine rgy (y_mov rfl rfl) rfl rfl rfl rfl ?_
      refine rgy (y_len rfl Tryd.underlying52 rfl) rfl rfl rfl rfl ?_
      refine rgy (y_lss rfl rfl rfl) rfl rfl rfl rfl ?_
      refine ry (y_pick rfl rfl rfl) rfl rfl ?_
      refine ry (y_asg rfl rfl) rfl rfl ?_
      refine reg_nil ?_
      refine fn_next ?_
      refine cw_seq ?_
      refine cw_seq ?_
      refine cw_reg ?_
      refine ry (y_mov rfl rfl) rfl rfl ?_
      refine ry (y_notd rfl rfl) rfl rfl ?_
      refine reg_nil ?_
      refine fn_next ?_
      refine cw_condd rfl (fun h83 => ?_) (fun h83 => ?_)
      ·skip
       refine cw_seq ?_
       refine cw_reg ?_
       refine ry (y_asg rfl rfl) rfl rfl ?_
       refine reg_nil ?_
       refine fn_next ?_
       refine cw_seq ?_
       refine cw_seq ?_
       refine cw_reg ?_
       refine ry (y_mov rfl rfl) rfl rfl ?_
       refine reg_op (op_call (refSign3 r _) rfl kflaw34c_13 ⟨rfl, trivial⟩) rfl rfl ?_
       rintro _ w85 ⟨rfl, e84⟩
       have H86 := H64.ext e84
       refine ry (y_notd rfl rfl) rfl rfl ?_
       refine reg_nil ?_
       refine fn_next ?_
       refine cw_condd rfl (fun h87 => ?_) (fun h87 => ?_)
       ·skip
        refine cw_reg ?_
        refine ry (y_asg rfl rfl) rfl rfl ?_
        refine reg_nil ?_
        refine fn_next ?_
        refine cw_seq ?_
        refine cw_reg ?_
        refine ry (y_mov rfl rfl) rfl rfl ?_
        refine ry (y_eql rfl rfl rfl) rfl rfl ?_
        refine ry (y_mov rfl rfl) rfl rfl ?_
        refine rgy (y_mov rfl rfl) rfl rfl rfl rfl ?_
        refine rgy (y_eql rfl rfl rfl) rfl rfl rfl rfl ?_
        refine ry (y_pick rfl rfl rfl) rfl rfl ?_
        refine ry (y_mov rfl rfl) rfl rfl ?_
        refine rgy (y_mov rfl rfl) rfl rfl rfl rfl ?_
        refine rgy (y_len rfl Tryd.underlying52 rfl) rfl rfl rfl rfl ?_
        refine rgy (y_eql rfl rfl rfl) rfl rfl rfl rfl ?_
        refine ry (y_pick rfl rfl rfl) rfl rfl ?_
        refine ry (y_mov rfl rfl) rfl rfl ?_
        refine rgy (y_mov rfl rfl) rfl rfl rfl rfl ?_
        refine rgy (y_mov rfl rfl) rfl rfl rfl rfl ?_
        refine rgy (y_eql rfl rfl rfl) rfl rfl rfl rfl ?_
        refine ry (y_pick rfl rfl rfl) rfl rfl ?_
        refine ry (y_asg rfl rfl) rfl rfl ?_
        refine reg_nil ?_
        refine fn_next ?_
        refine cw_ret ?_
        refine fn_then_ret ?_
        refine fn_ret1 rfl rfl ?_
        exact ⟨rfl, H86.base⟩
       · exact absurd (Classical.not_not.1 h87) hs
      · exact (hno ⟨by omega, by omega, by omega, by omega⟩).elim
     ·skip
      refine rg_off rfl rfl rfl rfl rfl ?_
      refine rg_off rfl rfl rfl rfl rfl ?_
      refine rg_off rfl rfl rfl rfl rfl ?_
      refine rg_off rfl rfl rfl rfl rfl ?_
      refine rg_off rfl rfl rfl rfl rfl ?_
      refine ry (y_pick rfl rfl rfl) rfl rfl ?_
      refine ry (y_asg rfl rfl) rfl rfl ?_
      refine reg_nil ?_
      refine fn_next ?_
      refine cw_seq ?_
      refine cw_seq ?_
      refine cw_reg ?_
      refine ry (y_mov rfl rfl) rfl rfl ?_
      refine ry (y_not rfl rfl) rfl rfl ?_
      refine reg_nil ?_
      refine fn_next ?_
      refine cw_condt rfl ?_
      refine cw_seq ?_
      refine cw_reg ?_
      refine ry (y_asg rfl rfl) rfl rfl ?_
      refine reg_nil ?_
      refine fn_next ?_
      refine cw_seq ?_
      refine cw_seq ?_
      refine cw_reg ?_
      refine ry (y_mov rfl rfl) rfl rfl ?_
      refine reg_op (op_call (refSign3 r _) rfl kflaw34c_13 ⟨rfl, trivial⟩) rfl rfl ?_
      rintro _ w89 ⟨rfl, e88⟩
      have H90 := H64.ext e88
      refine ry (y_notd rfl rfl) rfl rfl ?_
      refine reg_nil ?_
      refine fn_next ?_
      refine cw_condd rfl (fun h91 => ?_) (fun h91 => ?_)
      ·skip
       refine cw_reg ?_
       refine ry (y_asg rfl rfl) rfl rfl ?_
       refine reg_nil ?_
       refine fn_next ?_
       refine cw_seq ?_
       refine cw_reg ?_
       refine ry (y_mov rfl rfl) rfl rfl ?_
       refine ry (y_eql rfl rfl rfl) rfl rfl ?_
       refine ry (y_mov rfl rfl) rfl rfl ?_
       refine rgy (y_mov rfl rfl) rfl rfl rfl rfl ?_
       refine rgy (y_eql rfl rfl rfl) rfl rfl rfl rfl ?_
       refine ry (y_pick rfl rfl rfl) rfl rfl ?_
       refine ry (y_mov rfl rfl) rfl rfl ?_
       refine rgy (y_mov rfl rfl) rfl rfl rfl rfl ?_
       refine rgy (y_len rfl Tryd.underlying52 rfl) rfl rfl rfl rfl ?_
       refine rgy (y_eql rfl rfl rfl) rfl rfl rfl rfl ?_
       refine ry (y_pick rfl rfl rfl) rfl rfl ?_
       refine ry (y_mov rfl rfl) rfl rfl ?_
       refine rgy (y_mov rfl rfl) rfl rfl rfl rfl ?_
       refine rgy (y_mov rfl rfl) rfl rfl rfl rfl ?_
       refine rgy (y_eql rfl rfl rfl) rfl rfl rfl rfl ?_
       refine ry (y_pick rfl rfl rfl) rfl rfl ?_
       refine ry (y_asg rfl rfl) rfl rfl ?_
       refine reg_nil ?_
       refine fn_next ?_
       refine cw_ret ?_
       refine fn_then_ret ?_
       refine fn_ret1 rfl rfl ?_
       exact ⟨rfl, H90.base⟩
      · exact absurd (Classical.not_not.1 h91) hs
   ·skip
    refine rg_off rfl rfl rfl rfl rfl ?_
    refine rg_off rfl rfl rfl rfl rfl ?_
    refine rg_off rfl rfl rfl rfl rfl ?_
    refine rg_off rfl rfl rfl rfl rfl ?_
    refine rg_off rfl rfl rfl rfl rfl ?_
    refine ry (y_pick rfl rfl rfl) rfl rfl ?_
    refine reg_nil ?_
    refine fn_next ?_
    refine cw_condf rfl ?_
    refine cw_skip ?_
    refine fn_next ?_
    refine cw_seq ?_
    refine cw_reg ?_
    refine ry (y_fa rfl rfl kflaw34c_12 rfl) rfl rfl ?_
    refine ry (y_ld rfl rfl kflaw34c_8 (H64.cell (i := 1) rfl rfl)) rfl rfl ?_
    refine ry (y_geq rfl rfl rfl) rfl rfl ?_
    refine ry (y_mov rfl rfl) rfl rfl ?_
    refine rg_splitd (d := 56) rfl (fun h92 => ?_) (fun h92 => ?_)
    ·skip
     refine rgy (y_fa rfl rfl kflaw34c_12 rfl) rfl rfl rfl rfl ?_
     refine rgy (y_ld rfl rfl kflaw34c_8 (H64.cell (i := 1) rfl rfl)) rfl rfl rfl rfl ?_
     refine rgy (y_mov rfl rfl) rfl rfl rfl rfl ?_
     refine rgy (y_len rfl Tryd.underlying52 rfl) rfl rfl rfl rfl ?_
     refine rgy (y_lss rfl rfl rfl) rfl rfl rfl rfl ?_
     refine ry (y_pick rfl rfl rfl) rfl rfl ?_
     refine ry (y_asg rfl rfl) rfl rfl ?_
     refine reg_nil ?_
     refine fn_next ?_
     refine cw_seq ?_
     refine cw_seq ?_
     refine cw_reg ?_
     refine ry (y_mov rfl rfl) rfl rfl ?_
     refine ry (y_notd rfl rfl) rfl rfl ?_
     refine reg_nil ?_
     refine fn_next ?_
     refine cw_condd rfl (fun h93 => ?_) (fun h93 => ?_)
     ·skip
      refine cw_seq ?_
      refine cw_reg ?_
      refine ry (y_asg rfl rfl) rfl rfl ?_
      refine reg_nil ?_
      refine fn_next ?_
      refine cw_seq ?_
      refine cw_seq ?_
      refine cw_reg ?_
      refine ry (y_mov rfl rfl) rfl rfl ?_
      refine reg_op (op_call (refSign3 r _) rfl kflaw34c_13 ⟨rfl, trivial⟩) rfl rfl ?_
      rintro _ w95 ⟨rfl, e94⟩
      have H96 := H64.ext e94
      refine ry (y_notd rfl rfl) rfl rfl ?_
      refine reg_nil ?_
      refine fn_next ?_
      refine cw_condd rfl (fun h97 => ?_) (fun h97 => ?_)
      ·skip
       refine cw_reg ?_
       refine ry (y_asg rfl rfl) rfl rfl ?_
       refine reg_nil ?_
       refine fn_next ?_
       refine cw_seq ?_
       refine cw_reg ?_
       refine ry (y_mov rfl rfl) rfl rfl ?_
       refine ry (y_eql rfl rfl rfl) rfl rfl ?_
       refine ry (y_mov rfl rfl) rfl rfl ?_
       refine rgy (y_mov rfl rfl) rfl rfl rfl rfl ?_
       refine rgy (y_eql rfl rfl rfl) rfl rfl rfl rfl ?_
       refine ry (y_pick rfl rfl rfl) rfl rfl ?_
       refine ry (y_mov rfl rfl) rfl rfl ?_
       refine rgy (y_mov rfl rfl) rfl rfl rfl rfl ?_
       refine rgy (y_len rfl Tryd.underlying52 rfl) rfl rfl rfl rfl ?_
       refine rgy (y_eql rfl rfl rfl) rfl rfl rfl rfl ?_
       refine ry (y_pick rfl rfl rfl) rfl rfl ?_
       refine ry (y_mov rfl rfl) rfl rfl ?_
       refine rgy (y_mov rfl rfl) rfl rfl rfl rfl ?_
       refine rgy (y_mov rfl rfl) rfl rfl rfl rfl ?_
       refine rgy (y_eql rfl rfl rfl) rfl rfl rfl rfl ?_
       refine ry (y_pick rfl rfl rfl) rfl rfl ?_
       refine ry (y_asg rfl rfl) rfl rfl ?_
       refine reg_nil ?_
       refine fn_next ?_
       refine cw_ret ?_
       refine fn_then_ret ?_
       refine fn_ret1 rfl rfl ?_
       exact ⟨rfl, H96.base⟩
      · exact absurd (Classical.not_not.1 h97) hs
     · exact (hno ⟨by omega, by omega, by omega, by omega⟩).elim
    ·skip
     refine rg_off rfl rfl rfl rfl rfl ?_
     refine rg_off rfl rfl rfl rfl rfl ?_
     refine rg_off rfl rfl rfl rfl rfl ?_
     refine rg_off rfl rfl rfl rfl rfl ?_
     refine rg_off rfl rfl rfl rfl rfl ?_
     refine ry (y_pick rfl rfl rfl) rfl rfl ?_
     refine ry (y_asg rfl rfl) rfl rfl ?_
     refine reg_nil ?_
     refine fn_next ?_
     refine cw_seq ?_
     refine cw_seq ?_
     refine cw_reg ?_
     refine ry (y_mov rfl rfl) rfl rfl ?_
     refine ry (y_not rfl rfl) rfl rfl ?_
     refine reg_nil ?_
     refine fn_next ?_
     refine cw_condt rfl ?_
     refine cw_seq ?_
     refine cw_reg ?_
     refine ry (y_asg rfl rfl) rfl rfl ?_
     refine reg_nil ?_
     refine fn_next ?_
     refine cw_seq ?_
     refine cw_seq ?_
     refine cw_reg ?_
     refine ry (y_mov rfl rfl) rfl rfl ?_
     refine reg_op (op_call (refSign3 r _) rfl kflaw34c_13 ⟨rfl, trivial⟩) rfl rfl ?_
     rintro _ w99 ⟨rfl, e98⟩
     have H100 := H64.ext e98
     refine ry (y_notd rfl rfl) rfl rfl ?_
     refine reg_nil ?_
     refine fn_next ?_
     refine cw_condd rfl (fun h101 => ?_) (fun h101 => ?_)
     ·skip
      refine cw_reg ?_
      refine ry (y_asg rfl rfl) rfl rfl ?_
      refine reg_nil ?_
      refine fn_next ?_
      refine cw_seq ?_
      refine cw_reg ?_
      refine ry (y_mov rfl rfl) rfl rfl ?_
      refine ry (y_eql rfl rfl rfl) rfl rfl ?_
      refine ry (y_mov rfl rfl) rfl rfl ?_
      refine rgy (y_mov rfl rfl) rfl rfl rfl rfl ?_
      refine rgy (y_eql rfl rfl rfl) rfl rfl rfl rfl ?_
      refine ry (y_pick rfl rfl rfl) rfl rfl ?_
      refine ry (y_mov rfl rfl) rfl rfl ?_
      refine rgy (y_mov rfl rfl) rfl rfl rfl rfl ?_
      refine rgy (y_len rfl Tryd.underlying52 rfl) rfl rfl rfl rfl ?_
      refine rgy (y_eql rfl rfl rfl) rfl rfl rfl rfl ?_
      refine ry (y_pick rfl rfl rfl) rfl rfl ?_
      refine ry (y_mov rfl rfl) rfl rfl ?_
      refine rgy (y_mov rfl rfl) rfl rfl rfl rfl ?_
      refine rgy (y_mov rfl rfl) rfl rfl rfl rfl ?_
      refine rgy (y_eql rfl rfl rfl) rfl rfl rfl rfl ?_
      refine ry (y_pick rfl rfl rfl) rfl rfl ?_
      refine ry (y_asg rfl rfl) rfl rfl ?_
      refine reg_nil ?_
      refine fn_next ?_
      refine cw_ret ?_
      refine fn_then_ret ?_
      refine fn_ret1 rfl rfl ?_
      exact ⟨rfl, H100.base⟩
     · exact absurd (Classical.not_not.1 h101) hs

set_option maxRecDepth 100000 in
set_option maxHeartbeats 4000000 in
theorem chartMarks_yes (LA : Option Addr) (nl lc : Nat) (ls : List (List Int)) (x y : Nat) (r : Int) (w : World) (hT : Tabs w) (hlr : Rd w LA (strs ls)) (hll : ls.length = nl) (hBs : Byts ls) (hy : y < nl) (hx : x < (rcs (ls.getD y [])).length) :
    Ret Tryd.prog 7 [.slice LA nl lc, .agg #[.int .i64 (x : Int), .int .i64 (y : Int)], .int .i32 r] w (fun z w' => z = .bool true ∧ Below w.heap.size w w') := by
 refine ret_enter Tryd.func7 rfl rfl rfl ?_
 have H0 := HS.start w
 refine cw_seq ?_
 refine cw_reg ?_
 refine reg_op (op_box (cs := [.int _ _, .int _ _]) H0 rfl rfl rfl) rfl rfl ?_
 rintro _ w2 ⟨b1, rfl, H3⟩
 refine ry (y_asg rfl rfl) rfl rfl ?_
 refine reg_nil ?_
 refine fn_next ?_
 refine cw_seq ?_
 refine cw_seq ?_
 refine cw_reg ?_
 refine reg_op (op_call (chartAwake _) rfl kflaw34c_1 trivial) rfl rfl ?_
 rintro _ w5 ⟨rfl, e4⟩
 have H6 := H3.ext e4
 refine ry (y_not rfl rfl) rfl rfl ?_
 refine reg_nil ?_
 refine fn_next ?_
 refine cw_condf rfl ?_
 refine cw_skip ?_
 refine fn_next ?_
 refine cw_seq ?_
 refine cw_seq ?_
 refine cw_reg ?_
 refine ry (y_mov rfl rfl) rfl rfl ?_
 refine reg_op (op_call (lLong34 LA nl lc ls 300 _ (hlr.below H6.base) hll) rfl kflaw34c_2 ⟨rfl, rfl, trivial⟩) rfl rfl ?_
 rintro _ w8 ⟨q, rfl, hlg, e7⟩
 have H9 := H6.ext e7
 refine reg_nil ?_
 refine fn_next ?_
 refine cw_cond rfl (fun h10 => ?_) (fun h10 => ?_)
 ·skip
  refine cw_seq ?_
  refine cw_reg ?_
  refine ry (y_asg rfl rfl) rfl rfl ?_
  refine reg_nil ?_
  refine fn_next ?_
  refine cw_ret ?_
  refine fn_then_ret ?_
  refine fn_ret1 rfl rfl ?_
  exact ⟨rfl, H9.base⟩
 ·skip
  have hf := h10
  have hsz : ∀ s ∈ ls, s.length ≤ 1000000 := fun s hs => by obtain ⟨j, hj, rfl⟩ := List.mem_iff_getElem.1 hs; have := (hlg hf).2 j (by omega); rw [List.getD, List.getElem?_eq_getElem hj] at this; simp only [Option.getD_some] at this; omega
  have hnl : nl ≤ 1000000 := by have := (hlg hf).1; omega
  have hBy := hBs.at_ (i := y) (by omega)
  have hsy := getD_len hsz (i := y) (by omega)
  have gs := strs_get (ls := ls) (i := y) (by omega)
  have hrl := rcs_len (s := (ls.getD y []))
  have hqB := rcs_at hBy (k := x) hx
  have gq := strs_get (ls := rcs (ls.getD y [])) (i := x) hx
  have hql := (rcs_piece hx).1
  have hen := encB_len r
  have hsl := flat_set_le (q := rcs (ls.getD y [])) (x := x) (e := encB r)
  rw [rcs_flat] at hsl
  refine cw_skip ?_
  refine fn_next ?_
  refine cw_seq ?_
  rcases hok : okD ((rcs (ls.getD y [])).getD x []) with _ | _
  ·skip
   refine cw_reg ?_
   refine ry (y_mov rfl rfl) rfl rfl ?_
   refine ry (y_ldb (i := 0) (cs := [_, _]) H9 rfl rfl kflaw34c_3 rfl rfl) rfl rfl ?_
   refine reg_op (op_call (atYesBad LA nl lc ls x y _ (hT.below hT.size H9.base) (hlr.below H9.base) hll hnl hBs hsz hy hx hok) rfl kflaw34c_4 ⟨rfl, rfl, trivial⟩) rfl rfl ?_
   rintro _ w12 ⟨rfl, e11⟩
   have H13 := H9.ext e11
   refine ry (y_mov rfl rfl) rfl rfl ?_
   refine ry (y_ext rfl rfl rfl) rfl rfl ?_
   refine ry (y_ext rfl rfl rfl) rfl rfl ?_
   refine ry (y_asg rfl rfl) rfl rfl ?_
   refine ry (y_asg rfl rfl) rfl rfl ?_
   refine reg_nil ?_
   refine fn_next ?_
   refine cw_seq ?_
   by_cases hs : SgnP r
   ·skip
    refine cw_reg ?_
    refine ry (y_mov rfl rfl) rfl rfl ?_
    refine ry (y_ldb (i := 0) (cs := [_, _]) H13 rfl rfl kflaw34c_3 rfl rfl) rfl rfl ?_
    refine ry (y_mov rfl rfl) rfl rfl ?_
    refine reg_op (op_call (markYes LA nl lc ls x y r _ (hT.below hT.size H13.base) (hlr.below H13.base) hll hnl hBs hsz hs hy hx) rfl kflaw34c_5 ⟨rfl, rfl, rfl, trivial⟩) rfl rfl ?_
    rintro _ w15 ⟨A17, c18, rfl, k14⟩
    have H16 := H13.call k14
    refine ry (y_mov rfl rfl) rfl rfl ?_
    refine ry (y_ext rfl rfl rfl) rfl rfl ?_
    refine ry (y_ext rfl rfl rfl) rfl rfl ?_
    refine ry (y_asg rfl rfl) rfl rfl ?_
    refine ry (y_asg rfl rfl) rfl rfl ?_
    refine reg_nil ?_
    refine fn_next ?_
    refine cw_seq ?_
    refine cw_reg ?_
    refine reg_op (op_lit (parts := []) (vs := []) (cs := []) H16 rfl Tryd.underlying52 kflaw34c_6 rfl trivial rfl rfl) rfl rfl ?_
    rintro _ w20 ⟨b19, rfl, H21⟩
    have H22 := H21.asrow (m := 0) (size := 1) rfl (by decide)
    refine ry (y_asg rfl rfl) rfl rfl ?_
    refine reg_nil ?_
    refine fn_next ?_
    refine cw_seq ?_
    refine cw_seq ?_
    refine cw_reg ?_
    refine ry (y_fa rfl rfl kflaw34c_7 rfl) rfl rfl ?_
    refine ry (y_ld rfl rfl kflaw34c_8 (H22.cell (i := 2) rfl rfl)) rfl rfl ?_
    refine ry (y_geq rfl rfl rfl) rfl rfl ?_
    refine ry (y_mov rfl rfl) rfl rfl ?_
    refine rg_splitd (d := 40) rfl (fun h23 => ?_) (fun h23 => ?_)
    ·skip
     refine rgy (y_fa rfl rfl kflaw34c_7 rfl) rfl rfl rfl rfl ?_
     refine rgy (y_ld rfl rfl kflaw34c_8 (H22.cell (i := 2) rfl rfl)) rfl rfl rfl rfl ?_
     refine rgy (y_mov rfl rfl) rfl rfl rfl rfl ?_
     refine rgy (y_len rfl Tryd.underlying52 rfl) rfl rfl rfl rfl ?_
     refine rgy (y_lss rfl rfl rfl) rfl rfl rfl rfl ?_
     refine ry (y_pick rfl rfl rfl) rfl rfl ?_
     refine reg_nil ?_
     refine fn_next ?_
     refine cw_condd rfl (fun h24 => ?_) (fun h24 => ?_)
     ·skip
      refine cw_reg ?_
      refine ry (y_mov rfl rfl) rfl rfl ?_
      refine ry (y_fa rfl rfl kflaw34c_7 rfl) rfl rfl ?_
      refine ry (y_ld rfl rfl kflaw34c_8 (H22.cell (i := 2) rfl rfl)) rfl rfl ?_
      refine ry (y_iar (hlr.below H22.base) rfl rfl rfl kflaw34c_9 (rfl) (by omega) (Nat.mul_one _) (gs)) rfl rfl ?_
      refine ry (y_ldr (hlr.below H22.base) rfl rfl kflaw34c_10 (gs)) rfl rfl ?_
      refine reg_op (op_call (refRunes (ls.getD y []) _ hBy hsy) rfl kflaw34c_11 ⟨rfl, trivial⟩) rfl rfl ?_
      rintro _ w26 ⟨A28, c29, rfl, k25⟩
      have H27 := H22.call k25
      refine ry (y_asg rfl rfl) rfl rfl ?_
      refine reg_nil ?_
      refine fn_next ?_
      refine cw_seq ?_
      refine cw_reg ?_
      refine ry (y_fa rfl rfl kflaw34c_12 rfl) rfl rfl ?_
      refine ry (y_ld rfl rfl kflaw34c_8 (H27.cell (i := 3) rfl rfl)) rfl rfl ?_
      refine ry (y_geq rfl rfl rfl) rfl rfl ?_
      refine ry (y_mov rfl rfl) rfl rfl ?_
      refine rg_splitd (d := 56) rfl (fun h30 => ?_) (fun h30 => ?_)
      ·skip
       refine rgy (y_fa rfl rfl kflaw34c_12 rfl) rfl rfl rfl rfl ?_
       refine rgy (y_ld rfl rfl kflaw34c_8 (H27.cell (i := 3) rfl rfl)) rfl rfl rfl rfl ?_
       refine rgy (y_mov rfl rfl) rfl rfl rfl rfl ?_
       refine rgy (y_len rfl Tryd.underlying52 rfl) rfl rfl rfl rfl ?_
       refine rgy (y_lss rfl rfl rfl) rfl rfl rfl rfl ?_
       refine ry (y_pick rfl rfl rfl) rfl rfl ?_
       refine ry (y_asg rfl rfl) rfl rfl ?_
       refine reg_nil ?_
       refine fn_next ?_
       refine cw_seq ?_
       refine cw_seq ?_
       refine cw_reg ?_
       refine ry (y_mov rfl rfl) rfl rfl ?_
       refine ry (y_notd rfl rfl) rfl rfl ?_
       refine reg_nil ?_
       refine fn_next ?_
       refine cw_condd rfl (fun h31 => ?_) (fun h31 => ?_)
       · exfalso; omega
       ·skip
        refine cw_skip ?_
        refine fn_next ?_
        refine cw_seq ?_
        refine cw_reg ?_
        refine ry (y_mov rfl rfl) rfl rfl ?_
        refine ry (y_fa rfl rfl kflaw34c_12 rfl) rfl rfl ?_
        refine ry (y_ld rfl rfl kflaw34c_8 (H27.cell (i := 3) rfl rfl)) rfl rfl ?_
        refine ry (y_iar (H27.rd (i := 0) rfl) rfl rfl rfl kflaw34c_9 (rfl) (by omega) (Nat.mul_one _) (gq)) rfl rfl ?_
        refine ry (y_ldr (H27.rd (i := 0) rfl) rfl rfl kflaw34c_10 (gq)) rfl rfl ?_
        refine reg_op (op_call (refRuneBad ((rcs (ls.getD y [])).getD x []) _ hqB hql hok) rfl kflaw34c_14 ⟨rfl, trivial⟩) rfl rfl ?_
        rintro _ w33 ⟨rfl, e32⟩
        have H34 := H27.ext e32
        refine ry (y_mov rfl rfl) rfl rfl ?_
        refine ry (y_ext rfl rfl rfl) rfl rfl ?_
        refine ry (y_ext rfl rfl rfl) rfl rfl ?_
        refine ry (y_asg rfl rfl) rfl rfl ?_
        refine ry (y_asg rfl rfl) rfl rfl ?_
        refine reg_nil ?_
        refine fn_next ?_
        refine cw_seq ?_
        refine cw_seq ?_
        refine cw_reg ?_
        refine ry (y_mov rfl rfl) rfl rfl ?_
        refine ry (y_mov rfl rfl) rfl rfl ?_
        refine rg_off rfl rfl rfl rfl rfl ?_
        refine rg_off rfl rfl rfl rfl rfl ?_
        refine rg_off rfl rfl rfl rfl rfl ?_
        refine rg_off rfl rfl rfl rfl rfl ?_
        refine rg_offu rfl rfl rfl rfl ?_
        refine rg_offu rfl rfl rfl rfl ?_
        refine rg_off rfl rfl rfl rfl rfl ?_
        refine ry (y_pick rfl rfl rfl) rfl rfl ?_
        refine ry (y_mov rfl rfl) rfl rfl ?_
        refine rgy (y_mov rfl rfl) rfl rfl rfl rfl ?_
        refine rgy (y_not rfl rfl) rfl rfl rfl rfl ?_
        refine rgy (y_mov rfl rfl) rfl rfl rfl rfl ?_
        refine rgy (y_mov rfl rfl) rfl rfl rfl rfl ?_
        refine rgy (y_neq rfl rfl rfl) rfl rfl rfl rfl ?_
        refine rgy (y_mov rfl rfl) rfl rfl rfl rfl ?_
        refine rgy (y_mov rfl rfl) rfl rfl rfl rfl ?_
        refine rgy (y_neq rfl rfl rfl) rfl rfl rfl rfl ?_
        refine rgy (y_pick rfl rfl rfl) rfl rfl rfl rfl ?_
        refine rgy (y_pick rfl rfl rfl) rfl rfl rfl rfl ?_
        refine ry (y_pick rfl rfl rfl) rfl rfl ?_
        refine reg_nil ?_
        refine fn_next ?_
        refine cw_condf rfl ?_
        refine cw_skip ?_
        refine fn_next ?_
        refine cw_seq ?_
        refine cw_seq ?_
        refine cw_reg ?_
        refine ry (y_mov rfl rfl) rfl rfl ?_
        refine reg_op (op_call (refSign3 r _) rfl kflaw34c_13 ⟨rfl, trivial⟩) rfl rfl ?_
        rintro _ w36 ⟨rfl, e35⟩
        have H37 := H34.ext e35
        refine ry (y_notd rfl rfl) rfl rfl ?_
        refine reg_nil ?_
        refine fn_next ?_
        refine cw_condd rfl (fun h38 => ?_) (fun h38 => ?_)
        · exact absurd hs h38
        ·skip
         refine cw_skip ?_
         refine fn_next ?_
         refine cw_seq ?_
         refine cw_seq ?_
         refine cw_reg ?_
         refine ry (y_mov rfl rfl) rfl rfl ?_
         refine ry (y_neq rfl rfl rfl) rfl rfl ?_
         refine ry (y_mov rfl rfl) rfl rfl ?_
         refine rgy (y_mov rfl rfl) rfl rfl rfl rfl ?_
         refine rgy (y_len rfl Tryd.underlying52 rfl) rfl rfl rfl rfl ?_
         refine rgy (y_mov rfl rfl) rfl rfl rfl rfl ?_
         refine rgy (y_len rfl Tryd.underlying52 rfl) rfl rfl rfl rfl ?_
         refine rgy (y_neq rfl rfl rfl) rfl rfl rfl rfl ?_
         refine ry (y_pick rfl rfl rfl) rfl rfl ?_
         refine reg_nil ?_
         refine fn_next ?_
         refine cw_condd rfl (fun h39 => ?_) (fun h39 => ?_)
         · exact absurd rfl h39
         ·skip
          refine cw_skip ?_
          refine fn_next ?_
          refine cw_seq ?_
          refine cw_reg ?_
          refine ry (y_asg rfl rfl) rfl rfl ?_
          refine reg_nil ?_
          refine fn_next ?_
          refine cw_seq ?_
          refine cw_seq ?_
          refine cw_reg ?_
          refine ry (y_asg rfl rfl) rfl rfl ?_
          refine reg_nil ?_
          refine fn_next ?_
          refine cw_block ?_
          refine cw_loopJ [16, 17, 134, 135, 136, 137, 138, 139, 140, 141, 142, 143, 144, 145, 146, 147, 148, 149, 150, 151, 152, 153, 154] (fun M wl ml => ∃ (i : Nat), M = [(17, .int .i64 (i : Int)), (16, .string (bs ((((rcs (ls.getD y [])).set x (encB r)).take i).flatten)))] ∧ HS w wl [Ob.row A17 nl c18 (strs (ls.set y (((rcs (ls.getD y [])).set x (encB r)).flatten))) 9 1, Ob.row A28 (rcs (ls.getD y [])).length c29 (strs (rcs (ls.getD y []))) 9 1, Ob.blk b1 [.int .i64 (x : Int), .int .i64 (y : Int)] 24] ∧ (i ≤ (rcs (ls.getD y [])).length) ∧ ml = (rcs (ls.getD y [])).length + 1 - i) ⟨0, rfl, (H37.pick (m := [_, _, _]) [2, 0, 3] rfl (by decide)), Nat.zero_le _, rfl⟩ ⟨rfl, rfl, trivial⟩ ?_
          rintro M w40 m42 ⟨i, rfl, H41, hin, rfl⟩
          have hfl := flat_take_le (q := (rcs (ls.getD y [])).set x (encB r)) (i := i)
          have hcs : i < (rcs (ls.getD y [])).length → ((((rcs (ls.getD y [])).set x (encB r)).take (i + 1)).flatten) = _ := fun q => cat_set (x := x) (e := encB r) q
          refine cw_seq ?_
          refine cw_seq ?_
          refine cw_reg ?_
          refine ry (y_mov rfl rfl) rfl rfl ?_
          refine ry (y_mov rfl rfl) rfl rfl ?_
          refine ry (y_len rfl Tryd.underlying52 rfl) rfl rfl ?_
          refine ry (y_lss rfl rfl rfl) rfl rfl ?_
          refine reg_nil ?_
          refine fn_next ?_
          refine cw_condd rfl (fun h43 => ?_) (fun h43 => ?_)
          ·skip
           have gi := strs_get (ls := rcs (ls.getD y [])) (i := i) (by omega)
           have hgl := rcs_piece (show i < (rcs (ls.getD y [])).length by omega)
           refine cw_skip ?_
           refine fn_next ?_
           refine cw_seq ?_
           refine cw_block ?_
           refine cw_seq ?_
           refine cw_reg ?_
           refine ry (y_mov rfl rfl) rfl rfl ?_
           refine ry (y_fa rfl rfl kflaw34c_12 rfl) rfl rfl ?_
           refine ry (y_ld rfl rfl kflaw34c_8 (H41.cell (i := 2) rfl rfl)) rfl rfl ?_
           refine ry (y_eql rfl rfl rfl) rfl rfl ?_
           refine reg_nil ?_
           refine fn_next ?_
           refine cw_condd rfl (fun h44 => ?_) (fun h44 => ?_)
           ·skip
            refine cw_reg ?_
            refine ry (y_mov rfl rfl) rfl rfl ?_
            refine ry (y_mov rfl rfl) rfl rfl ?_
            refine reg_op (op_call (refBytes3 r _ hs) rfl kflaw34c_15 ⟨rfl, trivial⟩) rfl rfl ?_
            rintro _ w46 ⟨A48, c49, rfl, k45⟩
            have H47 := H41.call k45
            refine ry (y_str rfl Tryd.underlying62 Tryd.underlying5 Tryd.underlying9 rfl (H47.rd (i := 0) rfl) (rfl)) rfl rfl ?_
            refine ry (y_strcat rfl rfl rfl (by omega)) rfl rfl ?_
            refine ry (y_asg rfl rfl) rfl rfl ?_
            refine reg_nil ?_
            refine fn_block ?_
            refine fn_next ?_
            refine cw_reg ?_
            refine ry (y_mov rfl rfl) rfl rfl ?_
            refine ry (y_add rfl rfl rfl (wi (by omega))) rfl rfl ?_
            refine ry (y_asg rfl rfl) rfl rfl ?_
            refine reg_nil ?_
            refine fn_roundJ ⟨i + 1, rfl, (H47.pick (m := [_, _, _]) [1, 2, 3] rfl (by decide)), by omega, rfl⟩ ⟨rfl, by rw [hcs (by omega), if_pos (by omega)]; rfl, trivial⟩ (by omega) (by repeat (first | exact kp_refl | refine kp_app rfl rfl ?_ | refine kp_cons rfl ?_)) rfl
           ·skip
            refine cw_reg ?_
            refine ry (y_mov rfl rfl) rfl rfl ?_
            refine ry (y_mov rfl rfl) rfl rfl ?_
            refine ry (y_mov rfl rfl) rfl rfl ?_
            refine ry (y_iar (H41.rd (i := 1) rfl) rfl rfl rfl kflaw34c_9 (rfl) (by omega) (Nat.mul_one _) (gi)) rfl rfl ?_
            refine ry (y_ldr (H41.rd (i := 1) rfl) rfl rfl kflaw34c_10 (gi)) rfl rfl ?_
            refine ry (y_strcat rfl rfl rfl (by omega)) rfl rfl ?_
            refine ry (y_asg rfl rfl) rfl rfl ?_
            refine reg_nil ?_
            refine fn_block ?_
            refine fn_next ?_
            refine cw_reg ?_
            refine ry (y_mov rfl rfl) rfl rfl ?_
            refine ry (y_add rfl rfl rfl (wi (by omega))) rfl rfl ?_
            refine ry (y_asg rfl rfl) rfl rfl ?_
            refine reg_nil ?_
            refine fn_roundJ ⟨i + 1, rfl, H41, by omega, rfl⟩ ⟨rfl, by rw [hcs (by omega), if_neg (by omega)]; rfl, trivial⟩ (by omega) (by repeat (first | exact kp_refl | refine kp_app rfl rfl ?_ | refine kp_cons rfl ?_)) rfl
          ·skip
           obtain rfl : (rcs (ls.getD y [])).length = i := by omega
           refine cw_exit ?_
           refine fn_then_exit (fn_then_exit (fn_block_exit ?_))
           refine fn_next ?_
           refine cw_seq ?_
           refine cw_seq ?_
           refine cw_reg ?_
           refine ry (y_asg rfl rfl) rfl rfl ?_
           refine reg_nil ?_
           refine fn_next ?_
           refine cw_block ?_
           refine cw_loopJ [6, 18, 155, 156, 157, 158, 159, 160, 161, 162, 163, 164, 165, 166, 167, 168, 169, 170, 171, 172, 173, 174, 175, 176, 177, 178, 179, 180, 181, 182, 183, 184, 185, 186, 187, 188, 189] (fun M wl ml => ∃ (j : Nat), M = [(18, .int .i64 (j : Int))] ∧ HS w wl [Ob.row A17 nl c18 (strs (ls.set y (((rcs (ls.getD y [])).set x (encB r)).flatten))) 9 1, Ob.blk b1 [.int .i64 (x : Int), .int .i64 (y : Int)] 24] ∧ (j ≤ nl) ∧ ml = nl + 1 - j) ⟨0, rfl, (H41.pick (m := [_, _]) [0, 2] rfl (by decide)), Nat.zero_le _, rfl⟩ ⟨rfl, trivial⟩ ?_
           rintro M w50 m52 ⟨j, rfl, H51, hjn, rfl⟩
           refine cw_seq ?_
           refine cw_seq ?_
           refine cw_reg ?_
           refine ry (y_mov rfl rfl) rfl rfl ?_
           refine ry (y_mov rfl rfl) rfl rfl ?_
           refine ry (y_len rfl Tryd.underlying52 rfl) rfl rfl ?_
           refine ry (y_lss rfl rfl rfl) rfl rfl ?_
           refine reg_nil ?_
           refine fn_next ?_
           refine cw_condd rfl (fun h53 => ?_) (fun h53 => ?_)
           ·skip
            have gj := strs_get (ls := ls.set y (((rcs (ls.getD y [])).set x (encB r)).flatten)) (i := j) (by rw [List.length_set]; omega)
            have gl := strs_get (ls := ls) (i := j) (by omega)
            have hgd := getD_set (q := ls) (y := y) (i := j) (e := (((rcs (ls.getD y [])).set x (encB r)).flatten)) (by omega)
            have htk : (((rcs (ls.getD y [])).set x (encB r)).take (rcs (ls.getD y [])).length).flatten = (((rcs (ls.getD y [])).set x (encB r)).flatten) := by rw [List.take_of_length_le (by rw [List.length_set]; exact Nat.le_refl _)]
            have hWD : Byt (((rcs (ls.getD y [])).set x (encB r)).flatten) := byt_flat (byt_set (rcs_byt hBy) (encB_byt hs))
            have hWB : Byt ((((rcs (ls.getD y [])).set x (encB r)).take (rcs (ls.getD y [])).length).flatten) := by rw [htk]; exact hWD
            have hBj : Byt ((ls.set y (((rcs (ls.getD y [])).set x (encB r)).flatten)).getD j []) := by rw [hgd]; by_cases q : j = y; (rw [if_pos q]; exact hWD); (rw [if_neg q]; exact hBs.at_ (by omega))
            have hj1 : j = y → (ls.set y (((rcs (ls.getD y [])).set x (encB r)).flatten)).getD j [] = (((rcs (ls.getD y [])).set x (encB r)).take (rcs (ls.getD y [])).length).flatten := fun q => by rw [hgd, if_pos q, htk]
            have hj2 : j ≠ y → (ls.set y (((rcs (ls.getD y [])).set x (encB r)).flatten)).getD j [] = ls.getD j [] := fun q => by rw [hgd, if_neg q]
            refine cw_skip ?_
            refine fn_next ?_
            refine cw_seq ?_
            refine cw_block ?_
            refine cw_seq ?_
            refine cw_draw H51 [0, 1, 2, 3, 4, 5, 6, 7, 8, 9, 10, 11, 12, 13, 14, 15, 16, 17, 18, 19, 20, 21, 22, 23, 24, 25, 26, 27, 28] [] (fun X HX => HX) (by kernel_rfl) (by kernel_rfl) (by rfl) ?_
            simp only [pick, List.getElem?_cons_succ, List.getElem?_cons_zero]
            refine hk_y (fun Y HY => y_mov rfl rfl) rfl rfl ?_
            refine hk_y (fun Y HY => y_fa rfl rfl kflaw34c_7 rfl) rfl rfl ?_
            refine hk_y (fun Y HY => y_ld rfl rfl kflaw34c_8 (HY.cell (i := 1) rfl rfl)) rfl rfl ?_
            refine hk_y (fun Y HY => y_eql rfl rfl rfl) rfl rfl ?_
            refine hk_y (fun Y HY => y_mov rfl rfl) rfl rfl ?_
            refine hk_splitd tv_all (d := 165) rfl (fun h54 => ?_) (fun h54 => ?_)
            ·skip
             refine hk_on (qy_yd fun Y HY => y_mov rfl rfl) rfl rfl rfl rfl ?_
             refine hk_on (qy_yd fun Y HY => y_mov rfl rfl) rfl rfl rfl rfl ?_
             refine hk_on (qy_yd fun Y HY => y_iar (HY.rd (i := 0) rfl) rfl rfl rfl kflaw34c_9 (rfl) (by omega) (Nat.mul_one _) (gj)) rfl rfl rfl rfl ?_
             refine hk_on (qy_yd fun Y HY => y_ldr (HY.rd (i := 0) rfl) rfl rfl kflaw34c_10 (gj)) rfl rfl rfl rfl ?_
             refine hk_on (qy_yd fun Y HY => y_mov rfl rfl) rfl rfl rfl rfl ?_
             refine hk_on (qy_yd fun Y HY => y_strne rfl rfl rfl (hBj) (hWB)) rfl rfl rfl rfl ?_
             refine hk_y (fun Y HY => y_pick rfl rfl rfl) rfl rfl ?_
             refine hk_y (fun Y HY => y_mov rfl rfl) rfl rfl ?_
             refine hk_splitd tv_all (d := 173) rfl (fun h55 => ?_) (fun h55 => ?_)
             · exact absurd (hj1 (by omega)) h55
             ·skip
              refine hk_on (qy_yd fun Y HY => y_mov rfl rfl) rfl rfl rfl rfl ?_
              refine hk_on (qy_yd fun Y HY => y_fa rfl rfl kflaw34c_7 rfl) rfl rfl rfl rfl ?_
              refine hk_on (qy_yd fun Y HY => y_ld rfl rfl kflaw34c_8 (HY.cell (i := 1) rfl rfl)) rfl rfl rfl rfl ?_
              refine hk_on (qy_yd fun Y HY => y_neq rfl rfl rfl) rfl rfl rfl rfl ?_
              refine hk_on (qy_yd fun Y HY => y_mov rfl rfl) rfl rfl rfl rfl ?_
              refine hk_splitd tv_all (d := 178) rfl (fun h56 => ?_) (fun h56 => ?_)
              ·skip
               refine hk_on (qy_yd fun Y HY => y_mov rfl rfl) rfl rfl rfl rfl ?_
               refine hk_on (qy_yd fun Y HY => y_mov rfl rfl) rfl rfl rfl rfl ?_
               refine hk_on (qy_yd fun Y HY => y_iar (HY.rd (i := 0) rfl) rfl rfl rfl kflaw34c_9 (rfl) (by omega) (Nat.mul_one _) (gj)) rfl rfl rfl rfl ?_
               refine hk_on (qy_yd fun Y HY => y_ldr (HY.rd (i := 0) rfl) rfl rfl kflaw34c_10 (gj)) rfl rfl rfl rfl ?_
               refine hk_on (qy_yd fun Y HY => y_mov rfl rfl) rfl rfl rfl rfl ?_
               refine hk_on (qy_yd fun Y HY => y_mov rfl rfl) rfl rfl rfl rfl ?_
               refine hk_on (qy_yd fun Y HY => y_iar (hlr.below HY.base) rfl rfl rfl kflaw34c_9 (rfl) (by omega) (Nat.mul_one _) (gl)) rfl rfl rfl rfl ?_
               refine hk_on (qy_yd fun Y HY => y_ldr (hlr.below HY.base) rfl rfl kflaw34c_10 (gl)) rfl rfl rfl rfl ?_
               refine hk_on (qy_yd fun Y HY => y_strne rfl rfl rfl (hBj) (hBs.at_ (by omega))) rfl rfl rfl rfl ?_
               refine hk_on (qy_yd fun Y HY => y_pick rfl rfl rfl) rfl rfl rfl rfl ?_
               refine hk_y (fun Y HY => y_pick rfl rfl rfl) rfl rfl ?_
               refine hk_nil ?_
               intro w57 H58
               refine tv_nil ?_
               refine fn_next ?_
               refine cw_condd rfl (fun h59 => ?_) (fun h59 => ?_)
               · exact absurd (hj2 (by omega)) h59
               ·skip
                refine cw_skip ?_
                refine fn_block ?_
                refine fn_next ?_
                refine cw_reg ?_
                refine ry (y_mov rfl rfl) rfl rfl ?_
                refine ry (y_add rfl rfl rfl (wi (by omega))) rfl rfl ?_
                refine ry (y_asg rfl rfl) rfl rfl ?_
                refine reg_nil ?_
                refine fn_roundJ ⟨j + 1, rfl, H58, by omega, rfl⟩ ⟨rfl, trivial⟩ (by omega) (by repeat (first | exact kp_refl | refine kp_app rfl rfl ?_ | refine kp_cons rfl ?_)) rfl
              ·skip
               refine hk_off rfl rfl rfl rfl rfl ?_
               refine hk_off rfl rfl rfl rfl rfl ?_
               refine hk_off rfl rfl rfl rfl rfl ?_
               refine hk_off rfl rfl rfl rfl rfl ?_
               refine hk_off rfl rfl rfl rfl rfl ?_
               refine hk_off rfl rfl rfl rfl rfl ?_
               refine hk_off rfl rfl rfl rfl rfl ?_
               refine hk_off rfl rfl rfl rfl rfl ?_
               refine hk_off rfl rfl rfl rfl rfl ?_
               refine hk_on (qy_yd fun Y HY => y_pick rfl rfl rfl) rfl rfl rfl rfl ?_
               refine hk_y (fun Y HY => y_pick rfl rfl rfl) rfl rfl ?_
               refine hk_nil ?_
               intro w60 H61
               refine tv_nil ?_
               refine fn_next ?_
               refine cw_condf rfl ?_
               refine cw_skip ?_
               refine fn_block ?_
               refine fn_next ?_
               refine cw_reg ?_
               refine ry (y_mov rfl rfl) rfl rfl ?_
               refine ry (y_add rfl rfl rfl (wi (by omega))) rfl rfl ?_
               refine ry (y_asg rfl rfl) rfl rfl ?_
               refine reg_nil ?_
               refine fn_roundJ ⟨j + 1, rfl, H61, by omega, rfl⟩ ⟨rfl, trivial⟩ (by omega) (by repeat (first | exact kp_refl | refine kp_app rfl rfl ?_ | refine kp_cons rfl ?_)) rfl
            ·skip
             refine hk_off rfl rfl rfl rfl rfl ?_
             refine hk_off rfl rfl rfl rfl rfl ?_
             refine hk_off rfl rfl rfl rfl rfl ?_
             refine hk_off rfl rfl rfl rfl rfl ?_
             refine hk_off rfl rfl rfl rfl rfl ?_
             refine hk_off rfl rfl rfl rfl rfl ?_
             refine hk_y (fun Y HY => y_pick rfl rfl rfl) rfl rfl ?_
             refine hk_y (fun Y HY => y_mov rfl rfl) rfl rfl ?_
             refine hk_on (qy_yd fun Y HY => y_mov rfl rfl) rfl rfl rfl rfl ?_
             refine hk_on (qy_yd fun Y HY => y_fa rfl rfl kflaw34c_7 rfl) rfl rfl rfl rfl ?_
             refine hk_on (qy_yd fun Y HY => y_ld rfl rfl kflaw34c_8 (HY.cell (i := 1) rfl rfl)) rfl rfl rfl rfl ?_
             refine hk_on (qy_yd fun Y HY => y_neq rfl rfl rfl) rfl rfl rfl rfl ?_
             refine hk_on (qy_yd fun Y HY => y_mov rfl rfl) rfl rfl rfl rfl ?_
             refine hk_splitd tv_all (d := 178) rfl (fun h62 => ?_) (fun h62 => ?_)
             ·skip
              refine hk_on (qy_yd fun Y HY => y_mov rfl rfl) rfl rfl rfl rfl ?_
              refine hk_on (qy_yd fun Y HY => y_mov rfl rfl) rfl rfl rfl rfl ?_
              refine hk_on (qy_yd fun Y HY => y_iar (HY.rd (i := 0) rfl) rfl rfl rfl kflaw34c_9 (rfl) (by omega) (Nat.mul_one _) (gj)) rfl rfl rfl rfl ?_
              refine hk_on (qy_yd fun Y HY => y_ldr (HY.rd (i := 0) rfl) rfl rfl kflaw34c_10 (gj)) rfl rfl rfl rfl ?_
              refine hk_on (qy_yd fun Y HY => y_mov rfl rfl) rfl rfl rfl rfl ?_
              refine hk_on (qy_yd fun Y HY => y_mov rfl rfl) rfl rfl rfl rfl ?_
              refine hk_on (qy_yd fun Y HY => y_iar (hlr.below HY.base) rfl rfl rfl kflaw34c_9 (rfl) (by omega) (Nat.mul_one _) (gl)) rfl rfl rfl rfl ?_
              refine hk_on (qy_yd fun Y HY => y_ldr (hlr.below HY.base) rfl rfl kflaw34c_10 (gl)) rfl rfl rfl rfl ?_
              refine hk_on (qy_yd fun Y HY => y_strne rfl rfl rfl (hBj) (hBs.at_ (by omega))) rfl rfl rfl rfl ?_
              refine hk_on (qy_yd fun Y HY => y_pick rfl rfl rfl) rfl rfl rfl rfl ?_
              refine hk_y (fun Y HY => y_pick rfl rfl rfl) rfl rfl ?_
              refine hk_nil ?_
              intro w63 H64
              refine tv_nil ?_
              refine fn_next ?_
              refine cw_condd rfl (fun h65 => ?_) (fun h65 => ?_)
              · exact absurd (hj2 (by omega)) h65
              ·skip
               refine cw_skip ?_
               refine fn_block ?_
               refine fn_next ?_
               refine cw_reg ?_
               refine ry (y_mov rfl rfl) rfl rfl ?_
               refine ry (y_add rfl rfl rfl (wi (by omega))) rfl rfl ?_
               refine ry (y_asg rfl rfl) rfl rfl ?_
               refine reg_nil ?_
               refine fn_roundJ ⟨j + 1, rfl, H64, by omega, rfl⟩ ⟨rfl, trivial⟩ (by omega) (by repeat (first | exact kp_refl | refine kp_app rfl rfl ?_ | refine kp_cons rfl ?_)) rfl
             ·skip
              refine hk_off rfl rfl rfl rfl rfl ?_
              refine hk_off rfl rfl rfl rfl rfl ?_
              refine hk_off rfl rfl rfl rfl rfl ?_
              refine hk_off rfl rfl rfl rfl rfl ?_
              refine hk_off rfl rfl rfl rfl rfl ?_
              refine hk_off rfl rfl rfl rfl rfl ?_
              refine hk_off rfl rfl rfl rfl rfl ?_
              refine hk_off rfl rfl rfl rfl rfl ?_
              refine hk_off rfl rfl rfl rfl rfl ?_
              refine hk_on (qy_yd fun Y HY => y_pick rfl rfl rfl) rfl rfl rfl rfl ?_
              refine hk_y (fun Y HY => y_pick rfl rfl rfl) rfl rfl ?_
              refine hk_nil ?_
              intro w66 H67
              refine tv_nil ?_
              refine fn_next ?_
              refine cw_condf rfl ?_
              refine cw_skip ?_
              refine fn_block ?_
              refine fn_next ?_
              refine cw_reg ?_
              refine ry (y_mov rfl rfl) rfl rfl ?_
              refine ry (y_add rfl rfl rfl (wi (by omega))) rfl rfl ?_
              refine ry (y_asg rfl rfl) rfl rfl ?_
              refine reg_nil ?_
              refine fn_roundJ ⟨j + 1, rfl, H67, by omega, rfl⟩ ⟨rfl, trivial⟩ (by omega) (by repeat (first | exact kp_refl | refine kp_app rfl rfl ?_ | refine kp_cons rfl ?_)) rfl
           ·skip
            refine cw_exit ?_
            refine fn_then_exit (fn_then_exit (fn_block_exit ?_))
            refine fn_next ?_
            refine cw_seq ?_
            refine cw_reg ?_
            refine ry (y_asg rfl rfl) rfl rfl ?_
            refine reg_nil ?_
            refine fn_next ?_
            refine cw_ret ?_
            refine fn_ret1 rfl rfl ?_
            exact ⟨rfl, H51.base⟩
      · exfalso; omega
     · exfalso; omega
    · exfalso; omega
   ·skip
    refine cw_reg ?_
    refine ry (y_mov rfl rfl) rfl rfl ?_
    refine ry (y_ldb (i := 0) (cs := [_, _]) H13 rfl rfl kflaw34c_3 rfl rfl) rfl rfl ?_
    refine ry (y_mov rfl rfl) rfl rfl ?_
    refine reg_op (op_call (markForm LA nl lc x y r _ hs) rfl kflaw34c_5 ⟨rfl, rfl, rfl, trivial⟩) rfl rfl ?_
    rintro _ w69 ⟨rfl, e68⟩
    have H70 := H13.ext e68
    refine ry (y_mov rfl rfl) rfl rfl ?_
    refine ry (y_ext rfl rfl rfl) rfl rfl ?_
    refine ry (y_ext rfl rfl rfl) rfl rfl ?_
    refine ry (y_asg rfl rfl) rfl rfl ?_
    refine ry (y_asg rfl rfl) rfl rfl ?_
    refine reg_nil ?_
    refine fn_next ?_
    refine cw_seq ?_
    refine cw_reg ?_
    refine reg_op (op_lit (parts := []) (vs := []) (cs := []) H70 rfl Tryd.underlying52 kflaw34c_6 rfl trivial rfl rfl) rfl rfl ?_
    rintro _ w72 ⟨b71, rfl, H73⟩
    have H74 := H73.asrow (m := 0) (size := 1) rfl (by decide)
    refine ry (y_asg rfl rfl) rfl rfl ?_
    refine reg_nil ?_
    refine fn_next ?_
    refine cw_seq ?_
    refine cw_seq ?_
    refine cw_reg ?_
    refine ry (y_fa rfl rfl kflaw34c_7 rfl) rfl rfl ?_
    refine ry (y_ld rfl rfl kflaw34c_8 (H74.cell (i := 1) rfl rfl)) rfl rfl ?_
    refine ry (y_geq rfl rfl rfl) rfl rfl ?_
    refine ry (y_mov rfl rfl) rfl rfl ?_
    refine rg_splitd (d := 40) rfl (fun h75 => ?_) (fun h75 => ?_)
    ·skip
     refine rgy (y_fa rfl rfl kflaw34c_7 rfl) rfl rfl rfl rfl ?_
     refine rgy (y_ld rfl rfl kflaw34c_8 (H74.cell (i := 1) rfl rfl)) rfl rfl rfl rfl ?_
     refine rgy (y_mov rfl rfl) rfl rfl rfl rfl ?_
     refine rgy (y_len rfl Tryd.underlying52 rfl) rfl rfl rfl rfl ?_
     refine rgy (y_lss rfl rfl rfl) rfl rfl rfl rfl ?_
     refine ry (y_pick rfl rfl rfl) rfl rfl ?_
     refine reg_nil ?_
     refine fn_next ?_
     refine cw_condd rfl (fun h76 => ?_) (fun h76 => ?_)
     ·skip
      refine cw_reg ?_
      refine ry (y_mov rfl rfl) rfl rfl ?_
      refine ry (y_fa rfl rfl kflaw34c_7 rfl) rfl rfl ?_
      refine ry (y_ld rfl rfl kflaw34c_8 (H74.cell (i := 1) rfl rfl)) rfl rfl ?_
      refine ry (y_iar (hlr.below H74.base) rfl rfl rfl kflaw34c_9 (rfl) (by omega) (Nat.mul_one _) (gs)) rfl rfl ?_
      refine ry (y_ldr (hlr.below H74.base) rfl rfl kflaw34c_10 (gs)) rfl rfl ?_
      refine reg_op (op_call (refRunes (ls.getD y []) _ hBy hsy) rfl kflaw34c_11 ⟨rfl, trivial⟩) rfl rfl ?_
      rintro _ w78 ⟨A80, c81, rfl, k77⟩
      have H79 := H74.call k77
      refine ry (y_asg rfl rfl) rfl rfl ?_
      refine reg_nil ?_
      refine fn_next ?_
      refine cw_seq ?_
      refine cw_reg ?_
      refine ry (y_fa rfl rfl kflaw34c_12 rfl) rfl rfl ?_
      refine ry (y_ld rfl rfl kflaw34c_8 (H79.cell (i := 2) rfl rfl)) rfl rfl ?_
      refine ry (y_geq rfl rfl rfl) rfl rfl ?_
      refine ry (y_mov rfl rfl) rfl rfl ?_
      refine rg_splitd (d := 56) rfl (fun h82 => ?_) (fun h82 => ?_)
      ·skip
       refine rgy (y_fa rfl rfl kflaw34c_12 rfl) rfl rfl rfl rfl ?_
       refine rgy (y_ld rfl rfl kflaw34c_8 (H79.cell (i := 2) rfl rfl)) rfl rfl rfl rfl ?_
       refine rgy (y_mov rfl rfl) rfl rfl rfl rfl ?_
       refine rgy (y_len rfl Tryd.underlying52 rfl) rfl rfl rfl rfl ?_
       refine rgy (y_lss rfl rfl rfl) rfl rfl rfl rfl ?_
       refine ry (y_pick rfl rfl rfl) rfl rfl ?_
       refine ry (y_asg rfl rfl) rfl rfl ?_
       refine reg_nil ?_
       refine fn_next ?_
       refine cw_seq ?_
       refine cw_seq ?_
       refine cw_reg ?_
       refine ry (y_mov rfl rfl) rfl rfl ?_
       refine ry (y_notd rfl rfl) rfl rfl ?_
       refine reg_nil ?_
       refine fn_next ?_
       refine cw_condd rfl (fun h83 => ?_) (fun h83 => ?_)
       · exfalso; omega
       ·skip
        refine cw_skip ?_
        refine fn_next ?_
        refine cw_seq ?_
        refine cw_reg ?_
        refine ry (y_mov rfl rfl) rfl rfl ?_
        refine ry (y_fa rfl rfl kflaw34c_12 rfl) rfl rfl ?_
        refine ry (y_ld rfl rfl kflaw34c_8 (H79.cell (i := 2) rfl rfl)) rfl rfl ?_
        refine ry (y_iar (H79.rd (i := 0) rfl) rfl rfl rfl kflaw34c_9 (rfl) (by omega) (Nat.mul_one _) (gq)) rfl rfl ?_
        refine ry (y_ldr (H79.rd (i := 0) rfl) rfl rfl kflaw34c_10 (gq)) rfl rfl ?_
        refine reg_op (op_call (refRuneBad ((rcs (ls.getD y [])).getD x []) _ hqB hql hok) rfl kflaw34c_14 ⟨rfl, trivial⟩) rfl rfl ?_
        rintro _ w85 ⟨rfl, e84⟩
        have H86 := H79.ext e84
        refine ry (y_mov rfl rfl) rfl rfl ?_
        refine ry (y_ext rfl rfl rfl) rfl rfl ?_
        refine ry (y_ext rfl rfl rfl) rfl rfl ?_
        refine ry (y_asg rfl rfl) rfl rfl ?_
        refine ry (y_asg rfl rfl) rfl rfl ?_
        refine reg_nil ?_
        refine fn_next ?_
        refine cw_seq ?_
        refine cw_seq ?_
        refine cw_reg ?_
        refine ry (y_mov rfl rfl) rfl rfl ?_
        refine ry (y_mov rfl rfl) rfl rfl ?_
        refine rg_off rfl rfl rfl rfl rfl ?_
        refine rg_off rfl rfl rfl rfl rfl ?_
        refine rg_off rfl rfl rfl rfl rfl ?_
        refine rg_off rfl rfl rfl rfl rfl ?_
        refine rg_offu rfl rfl rfl rfl ?_
        refine rg_offu rfl rfl rfl rfl ?_
        refine rg_off rfl rfl rfl rfl rfl ?_
        refine ry (y_pick rfl rfl rfl) rfl rfl ?_
        refine ry (y_mov rfl rfl) rfl rfl ?_
        refine rgy (y_mov rfl rfl) rfl rfl rfl rfl ?_
        refine rgy (y_not rfl rfl) rfl rfl rfl rfl ?_
        refine rgy (y_mov rfl rfl) rfl rfl rfl rfl ?_
        refine rgy (y_mov rfl rfl) rfl rfl rfl rfl ?_
        refine rgy (y_neq rfl rfl rfl) rfl rfl rfl rfl ?_
        refine rgy (y_mov rfl rfl) rfl rfl rfl rfl ?_
        refine rgy (y_mov rfl rfl) rfl rfl rfl rfl ?_
        refine rgy (y_neq rfl rfl rfl) rfl rfl rfl rfl ?_
        refine rgy (y_pick rfl rfl rfl) rfl rfl rfl rfl ?_
        refine rgy (y_pick rfl rfl rfl) rfl rfl rfl rfl ?_
        refine ry (y_pick rfl rfl rfl) rfl rfl ?_
        refine reg_nil ?_
        refine fn_next ?_
        refine cw_condf rfl ?_
        refine cw_skip ?_
        refine fn_next ?_
        refine cw_seq ?_
        refine cw_seq ?_
        refine cw_reg ?_
        refine ry (y_mov rfl rfl) rfl rfl ?_
        refine reg_op (op_call (refSign3 r _) rfl kflaw34c_13 ⟨rfl, trivial⟩) rfl rfl ?_
        rintro _ w88 ⟨rfl, e87⟩
        have H89 := H86.ext e87
        refine ry (y_notd rfl rfl) rfl rfl ?_
        refine reg_nil ?_
        refine fn_next ?_
        refine cw_condd rfl (fun h90 => ?_) (fun h90 => ?_)
        ·skip
         refine cw_seq ?_
         refine cw_reg ?_
         refine ry (y_mov rfl rfl) rfl rfl ?_
         refine ry (y_len rfl Tryd.underlying52 rfl) rfl rfl ?_
         refine ry (y_eql rfl rfl rfl) rfl rfl ?_
         refine ry (y_mov rfl rfl) rfl rfl ?_
         refine rgy (y_mov rfl rfl) rfl rfl rfl rfl ?_
         refine rgy (y_eql rfl rfl rfl) rfl rfl rfl rfl ?_
         refine ry (y_pick rfl rfl rfl) rfl rfl ?_
         refine ry (y_asg rfl rfl) rfl rfl ?_
         refine reg_nil ?_
         refine fn_next ?_
         refine cw_ret ?_
         refine fn_then_ret ?_
         refine fn_ret1 rfl rfl ?_
         exact ⟨rfl, H89.base⟩
        · exact absurd (Classical.not_not.1 h90) hs
      · exfalso; omega
     · exfalso; omega
    · exfalso; omega
  ·skip
   refine cw_reg ?_
   refine ry (y_mov rfl rfl) rfl rfl ?_
   refine ry (y_ldb (i := 0) (cs := [_, _]) H9 rfl rfl kflaw34c_3 rfl rfl) rfl rfl ?_
   refine reg_op (op_call (atYesOk LA nl lc ls x y _ (hT.below hT.size H9.base) (hlr.below H9.base) hll hnl hBs hsz hy hx hok) rfl kflaw34c_4 ⟨rfl, rfl, trivial⟩) rfl rfl ?_
   rintro _ w92 ⟨rfl, e91⟩
   have H93 := H9.ext e91
   refine ry (y_mov rfl rfl) rfl rfl ?_
   refine ry (y_ext rfl rfl rfl) rfl rfl ?_
   refine ry (y_ext rfl rfl rfl) rfl rfl ?_
   refine ry (y_asg rfl rfl) rfl rfl ?_
   refine ry (y_asg rfl rfl) rfl rfl ?_
   refine reg_nil ?_
   refine fn_next ?_
   refine cw_seq ?_
   by_cases hs : SgnP r
   ·skip
    refine cw_reg ?_
    refine ry (y_mov rfl rfl) rfl rfl ?_
    refine ry (y_ldb (i := 0) (cs := [_, _]) H93 rfl rfl kflaw34c_3 rfl rfl) rfl rfl ?_
    refine ry (y_mov rfl rfl) rfl rfl ?_
    refine reg_op (op_call (markYes LA nl lc ls x y r _ (hT.below hT.size H93.base) (hlr.below H93.base) hll hnl hBs hsz hs hy hx) rfl kflaw34c_5 ⟨rfl, rfl, rfl, trivial⟩) rfl rfl ?_
    rintro _ w95 ⟨A97, c98, rfl, k94⟩
    have H96 := H93.call k94
    refine ry (y_mov rfl rfl) rfl rfl ?_
    refine ry (y_ext rfl rfl rfl) rfl rfl ?_
    refine ry (y_ext rfl rfl rfl) rfl rfl ?_
    refine ry (y_asg rfl rfl) rfl rfl ?_
    refine ry (y_asg rfl rfl) rfl rfl ?_
    refine reg_nil ?_
    refine fn_next ?_
    refine cw_seq ?_
    refine cw_reg ?_
    refine reg_op (op_lit (parts := []) (vs := []) (cs := []) H96 rfl Tryd.underlying52 kflaw34c_6 rfl trivial rfl rfl) rfl rfl ?_
    rintro _ w100 ⟨b99, rfl, H101⟩
    have H102 := H101.asrow (m := 0) (size := 1) rfl (by decide)
    refine ry (y_asg rfl rfl) rfl rfl ?_
    refine reg_nil ?_
    refine fn_next ?_
    refine cw_seq ?_
    refine cw_seq ?_
    refine cw_reg ?_
    refine ry (y_fa rfl rfl kflaw34c_7 rfl) rfl rfl ?_
    refine ry (y_ld rfl rfl kflaw34c_8 (H102.cell (i := 2) rfl rfl)) rfl rfl ?_
    refine ry (y_geq rfl rfl rfl) rfl rfl ?_
    refine ry (y_mov rfl rfl) rfl rfl ?_
    refine rg_splitd (d := 40) rfl (fun h103 => ?_) (fun h103 => ?_)
    ·skip
     refine rgy (y_fa rfl rfl kflaw34c_7 rfl) rfl rfl rfl rfl ?_
     refine rgy (y_ld rfl rfl kflaw34c_8 (H102.cell (i := 2) rfl rfl)) rfl rfl rfl rfl ?_
     refine rgy (y_mov rfl rfl) rfl rfl rfl rfl ?_
     refine rgy (y_len rfl Tryd.underlying52 rfl) rfl rfl rfl rfl ?_
     refine rgy (y_lss rfl rfl rfl) rfl rfl rfl rfl ?_
     refine ry (y_pick rfl rfl rfl) rfl rfl ?_
     refine reg_nil ?_
     refine fn_next ?_
     refine cw_condd rfl (fun h104 => ?_) (fun h104 => ?_)
     ·skip
      refine cw_reg ?_
      refine ry (y_mov rfl rfl) rfl rfl ?_
      refine ry (y_fa rfl rfl kflaw34c_7 rfl) rfl rfl ?_
      refine ry (y_ld rfl rfl kflaw34c_8 (H102.cell (i := 2) rfl rfl)) rfl rfl ?_
      refine ry (y_iar (hlr.below H102.base) rfl rfl rfl kflaw34c_9 (rfl) (by omega) (Nat.mul_one _) (gs)) rfl rfl ?_
      refine ry (y_ldr (hlr.below H102.base) rfl rfl kflaw34c_10 (gs)) rfl rfl ?_
      refine reg_op (op_call (refRunes (ls.getD y []) _ hBy hsy) rfl kflaw34c_11 ⟨rfl, trivial⟩) rfl rfl ?_
      rintro _ w106 ⟨A108, c109, rfl, k105⟩
      have H107 := H102.call k105
      refine ry (y_asg rfl rfl) rfl rfl ?_
      refine reg_nil ?_
      refine fn_next ?_
      refine cw_seq ?_
      refine cw_reg ?_
      refine ry (y_fa rfl rfl kflaw34c_12 rfl) rfl rfl ?_
      refine ry (y_ld rfl rfl kflaw34c_8 (H107.cell (i := 3) rfl rfl)) rfl rfl ?_
      refine ry (y_geq rfl rfl rfl) rfl rfl ?_
      refine ry (y_mov rfl rfl) rfl rfl ?_
      refine rg_splitd (d := 56) rfl (fun h110 => ?_) (fun h110 => ?_)
      ·skip
       refine rgy (y_fa rfl rfl kflaw34c_12 rfl) rfl rfl rfl rfl ?_
       refine rgy (y_ld rfl rfl kflaw34c_8 (H107.cell (i := 3) rfl rfl)) rfl rfl rfl rfl ?_
       refine rgy (y_mov rfl rfl) rfl rfl rfl rfl ?_
       refine rgy (y_len rfl Tryd.underlying52 rfl) rfl rfl rfl rfl ?_
       refine rgy (y_lss rfl rfl rfl) rfl rfl rfl rfl ?_
       refine ry (y_pick rfl rfl rfl) rfl rfl ?_
       refine ry (y_asg rfl rfl) rfl rfl ?_
       refine reg_nil ?_
       refine fn_next ?_
       refine cw_seq ?_
       refine cw_seq ?_
       refine cw_reg ?_
       refine ry (y_mov rfl rfl) rfl rfl ?_
       refine ry (y_notd rfl rfl) rfl rfl ?_
       refine reg_nil ?_
       refine fn_next ?_
       refine cw_condd rfl (fun h111 => ?_) (fun h111 => ?_)
       · exfalso; omega
       ·skip
        refine cw_skip ?_
        refine fn_next ?_
        refine cw_seq ?_
        refine cw_reg ?_
        refine ry (y_mov rfl rfl) rfl rfl ?_
        refine ry (y_fa rfl rfl kflaw34c_12 rfl) rfl rfl ?_
        refine ry (y_ld rfl rfl kflaw34c_8 (H107.cell (i := 3) rfl rfl)) rfl rfl ?_
        refine ry (y_iar (H107.rd (i := 0) rfl) rfl rfl rfl kflaw34c_9 (rfl) (by omega) (Nat.mul_one _) (gq)) rfl rfl ?_
        refine ry (y_ldr (H107.rd (i := 0) rfl) rfl rfl kflaw34c_10 (gq)) rfl rfl ?_
        refine reg_op (op_call (refRuneOk ((rcs (ls.getD y [])).getD x []) _ hqB hql hok) rfl kflaw34c_14 ⟨rfl, trivial⟩) rfl rfl ?_
        rintro _ w113 ⟨rfl, e112⟩
        have H114 := H107.ext e112
        refine ry (y_mov rfl rfl) rfl rfl ?_
        refine ry (y_ext rfl rfl rfl) rfl rfl ?_
        refine ry (y_ext rfl rfl rfl) rfl rfl ?_
        refine ry (y_asg rfl rfl) rfl rfl ?_
        refine ry (y_asg rfl rfl) rfl rfl ?_
        refine reg_nil ?_
        refine fn_next ?_
        refine cw_seq ?_
        refine cw_seq ?_
        refine cw_reg ?_
        refine ry (y_mov rfl rfl) rfl rfl ?_
        refine ry (y_mov rfl rfl) rfl rfl ?_
        refine rgy (y_mov rfl rfl) rfl rfl rfl rfl ?_
        refine rgy (y_mov rfl rfl) rfl rfl rfl rfl ?_
        refine rgy (y_neq rfl rfl rfl) rfl rfl rfl rfl ?_
        refine rgy (y_mov rfl rfl) rfl rfl rfl rfl ?_
        refine rg_splitd (d := 98) rfl (fun h115 => ?_) (fun h115 => ?_)
        · exact absurd rfl h115
        ·skip
         refine rgy (y_mov rfl rfl) rfl rfl rfl rfl ?_
         refine rgy (y_neq rfl rfl rfl) rfl rfl rfl rfl ?_
         refine rgy (y_pick rfl rfl rfl) rfl rfl rfl rfl ?_
         refine ry (y_pick rfl rfl rfl) rfl rfl ?_
         refine ry (y_mov rfl rfl) rfl rfl ?_
         refine rgy (y_mov rfl rfl) rfl rfl rfl rfl ?_
         refine rgy (y_not rfl rfl) rfl rfl rfl rfl ?_
         refine rgy (y_mov rfl rfl) rfl rfl rfl rfl ?_
         refine rg_off rfl rfl rfl rfl rfl ?_
         refine rg_off rfl rfl rfl rfl rfl ?_
         refine rg_off rfl rfl rfl rfl rfl ?_
         refine rg_offu rfl rfl rfl rfl ?_
         refine rg_offu rfl rfl rfl rfl ?_
         refine rg_off rfl rfl rfl rfl rfl ?_
         refine rgy (y_pick rfl rfl rfl) rfl rfl rfl rfl ?_
         refine ry (y_pick rfl rfl rfl) rfl rfl ?_
         refine reg_nil ?_
         refine fn_next ?_
         refine cw_condf rfl ?_
         refine cw_skip ?_
         refine fn_next ?_
         refine cw_seq ?_
         refine cw_seq ?_
         refine cw_reg ?_
         refine ry (y_mov rfl rfl) rfl rfl ?_
         refine reg_op (op_call (refSign3 r _) rfl kflaw34c_13 ⟨rfl, trivial⟩) rfl rfl ?_
         rintro _ w117 ⟨rfl, e116⟩
         have H118 := H114.ext e116
         refine ry (y_notd rfl rfl) rfl rfl ?_
         refine reg_nil ?_
         refine fn_next ?_
         refine cw_condd rfl (fun h119 => ?_) (fun h119 => ?_)
         · exact absurd hs h119
         ·skip
          refine cw_skip ?_
          refine fn_next ?_
          refine cw_seq ?_
          refine cw_seq ?_
          refine cw_reg ?_
          refine ry (y_mov rfl rfl) rfl rfl ?_
          refine ry (y_neq rfl rfl rfl) rfl rfl ?_
          refine ry (y_mov rfl rfl) rfl rfl ?_
          refine rgy (y_mov rfl rfl) rfl rfl rfl rfl ?_
          refine rgy (y_len rfl Tryd.underlying52 rfl) rfl rfl rfl rfl ?_
          refine rgy (y_mov rfl rfl) rfl rfl rfl rfl ?_
          refine rgy (y_len rfl Tryd.underlying52 rfl) rfl rfl rfl rfl ?_
          refine rgy (y_neq rfl rfl rfl) rfl rfl rfl rfl ?_
          refine ry (y_pick rfl rfl rfl) rfl rfl ?_
          refine reg_nil ?_
          refine fn_next ?_
          refine cw_condd rfl (fun h120 => ?_) (fun h120 => ?_)
          · exact absurd rfl h120
          ·skip
           refine cw_skip ?_
           refine fn_next ?_
           refine cw_seq ?_
           refine cw_reg ?_
           refine ry (y_asg rfl rfl) rfl rfl ?_
           refine reg_nil ?_
           refine fn_next ?_
           refine cw_seq ?_
           refine cw_seq ?_
           refine cw_reg ?_
           refine ry (y_asg rfl rfl) rfl rfl ?_
           refine reg_nil ?_
           refine fn_next ?_
           refine cw_block ?_
           refine cw_loopJ [16, 17, 134, 135, 136, 137, 138, 139, 140, 141, 142, 143, 144, 145, 146, 147, 148, 149, 150, 151, 152, 153, 154] (fun M wl ml => ∃ (i : Nat), M = [(17, .int .i64 (i : Int)), (16, .string (bs ((((rcs (ls.getD y [])).set x (encB r)).take i).flatten)))] ∧ HS w wl [Ob.row A97 nl c98 (strs (ls.set y (((rcs (ls.getD y [])).set x (encB r)).flatten))) 9 1, Ob.row A108 (rcs (ls.getD y [])).length c109 (strs (rcs (ls.getD y []))) 9 1, Ob.blk b1 [.int .i64 (x : Int), .int .i64 (y : Int)] 24] ∧ (i ≤ (rcs (ls.getD y [])).length) ∧ ml = (rcs (ls.getD y [])).length + 1 - i) ⟨0, rfl, (H118.pick (m := [_, _, _]) [2, 0, 3] rfl (by decide)), Nat.zero_le _, rfl⟩ ⟨rfl, rfl, trivial⟩ ?_
           rintro M w121 m123 ⟨i, rfl, H122, hin, rfl⟩
           have hfl := flat_take_le (q := (rcs (ls.getD y [])).set x (encB r)) (i := i)
           have hcs : i < (rcs (ls.getD y [])).length → ((((rcs (ls.getD y [])).set x (encB r)).take (i + 1)).flatten) = _ := fun q => cat_set (x := x) (e := encB r) q
           refine cw_seq ?_
           refine cw_seq ?_
           refine cw_reg ?_
           refine ry (y_mov rfl rfl) rfl rfl ?_
           refine ry (y_mov rfl rfl) rfl rfl ?_
           refine ry (y_len rfl Tryd.underlying52 rfl) rfl rfl ?_
           refine ry (y_lss rfl rfl rfl) rfl rfl ?_
           refine reg_nil ?_
           refine fn_next ?_
           refine cw_condd rfl (fun h124 => ?_) (fun h124 => ?_)
           ·skip
            have gi := strs_get (ls := rcs (ls.getD y [])) (i := i) (by omega)
            have hgl := rcs_piece (show i < (rcs (ls.getD y [])).length by omega)
            refine cw_skip ?_
            refine fn_next ?_
            refine cw_seq ?_
            refine cw_block ?_
            refine cw_seq ?_
            refine cw_reg ?_
            refine ry (y_mov rfl rfl) rfl rfl ?_
            refine ry (y_fa rfl rfl kflaw34c_12 rfl) rfl rfl ?_
            refine ry (y_ld rfl rfl kflaw34c_8 (H122.cell (i := 2) rfl rfl)) rfl rfl ?_
            refine ry (y_eql rfl rfl rfl) rfl rfl ?_
            refine reg_nil ?_
            refine fn_next ?_
            refine cw_condd rfl (fun h125 => ?_) (fun h125 => ?_)
            ·skip
             refine cw_reg ?_
             refine ry (y_mov rfl rfl) rfl rfl ?_
             refine ry (y_mov rfl rfl) rfl rfl ?_
             refine reg_op (op_call (refBytes3 r _ hs) rfl kflaw34c_15 ⟨rfl, trivial⟩) rfl rfl ?_
             rintro _ w127 ⟨A129, c130, rfl, k126⟩
             have H128 := H122.call k126
             refine ry (y_str rfl Tryd.underlying62 Tryd.underlying5 Tryd.underlying9 rfl (H128.rd (i := 0) rfl) (rfl)) rfl rfl ?_
             refine ry (y_strcat rfl rfl rfl (by omega)) rfl rfl ?_
             refine ry (y_asg rfl rfl) rfl rfl ?_
             refine reg_nil ?_
             refine fn_block ?_
             refine fn_next ?_
             refine cw_reg ?_
             refine ry (y_mov rfl rfl) rfl rfl ?_
             refine ry (y_add rfl rfl rfl (wi (by omega))) rfl rfl ?_
             refine ry (y_asg rfl rfl) rfl rfl ?_
             refine reg_nil ?_
             refine fn_roundJ ⟨i + 1, rfl, (H128.pick (m := [_, _, _]) [1, 2, 3] rfl (by decide)), by omega, rfl⟩ ⟨rfl, by rw [hcs (by omega), if_pos (by omega)]; rfl, trivial⟩ (by omega) (by repeat (first | exact kp_refl | refine kp_app rfl rfl ?_ | refine kp_cons rfl ?_)) rfl
            ·skip
             refine cw_reg ?_
             refine ry (y_mov rfl rfl) rfl rfl ?_
             refine ry (y_mov rfl rfl) rfl rfl ?_
             refine ry (y_mov rfl rfl) rfl rfl ?_
             refine ry (y_iar (H122.rd (i := 1) rfl) rfl rfl rfl kflaw34c_9 (rfl) (by omega) (Nat.mul_one _) (gi)) rfl rfl ?_
             refine ry (y_ldr (H122.rd (i := 1) rfl) rfl rfl kflaw34c_10 (gi)) rfl rfl ?_
             refine ry (y_strcat rfl rfl rfl (by omega)) rfl rfl ?_
             refine ry (y_asg rfl rfl) rfl rfl ?_
             refine reg_nil ?_
             refine fn_block ?_
             refine fn_next ?_
             refine cw_reg ?_
             refine ry (y_mov rfl rfl) rfl rfl ?_
             refine ry (y_add rfl rfl rfl (wi (by omega))) rfl rfl ?_
             refine ry (y_asg rfl rfl) rfl rfl ?_
             refine reg_nil ?_
             refine fn_roundJ ⟨i + 1, rfl, H122, by omega, rfl⟩ ⟨rfl, by rw [hcs (by omega), if_neg (by omega)]; rfl, trivial⟩ (by omega) (by repeat (first | exact kp_refl | refine kp_app rfl rfl ?_ | refine kp_cons rfl ?_)) rfl
           ·skip
            obtain rfl : (rcs (ls.getD y [])).length = i := by omega
            refine cw_exit ?_
            refine fn_then_exit (fn_then_exit (fn_block_exit ?_))
            refine fn_next ?_
            refine cw_seq ?_
            refine cw_seq ?_
            refine cw_reg ?_
            refine ry (y_asg rfl rfl) rfl rfl ?_
            refine reg_nil ?_
            refine fn_next ?_
            refine cw_block ?_
            refine cw_loopJ [6, 18, 155, 156, 157, 158, 159, 160, 161, 162, 163, 164, 165, 166, 167, 168, 169, 170, 171, 172, 173, 174, 175, 176, 177, 178, 179, 180, 181, 182, 183, 184, 185, 186, 187, 188, 189] (fun M wl ml => ∃ (j : Nat), M = [(18, .int .i64 (j : Int))] ∧ HS w wl [Ob.row A97 nl c98 (strs (ls.set y (((rcs (ls.getD y [])).set x (encB r)).flatten))) 9 1, Ob.blk b1 [.int .i64 (x : Int), .int .i64 (y : Int)] 24] ∧ (j ≤ nl) ∧ ml = nl + 1 - j) ⟨0, rfl, (H122.pick (m := [_, _]) [0, 2] rfl (by decide)), Nat.zero_le _, rfl⟩ ⟨rfl, trivial⟩ ?_
            rintro M w131 m133 ⟨j, rfl, H132, hjn, rfl⟩
            refine cw_seq ?_
            refine cw_seq ?_
            refine cw_reg ?_
            refine ry (y_mov rfl rfl) rfl rfl ?_
            refine ry (y_mov rfl rfl) rfl rfl ?_
            refine ry (y_len rfl Tryd.underlying52 rfl) rfl rfl ?_
            refine ry (y_lss rfl rfl rfl) rfl rfl ?_
            refine reg_nil ?_
            refine fn_next ?_
            refine cw_condd rfl (fun h134 => ?_) (fun h134 => ?_)
            ·skip
             have gj := strs_get (ls := ls.set y (((rcs (ls.getD y [])).set x (encB r)).flatten)) (i := j) (by rw [List.length_set]; omega)
             have gl := strs_get (ls := ls) (i := j) (by omega)
             have hgd := getD_set (q := ls) (y := y) (i := j) (e := (((rcs (ls.getD y [])).set x (encB r)).flatten)) (by omega)
             have htk : (((rcs (ls.getD y [])).set x (encB r)).take (rcs (ls.getD y [])).length).flatten = (((rcs (ls.getD y [])).set x (encB r)).flatten) := by rw [List.take_of_length_le (by rw [List.length_set]; exact Nat.le_refl _)]
             have hWD : Byt (((rcs (ls.getD y [])).set x (encB r)).flatten) := byt_flat (byt_set (rcs_byt hBy) (encB_byt hs))
             have hWB : Byt ((((rcs (ls.getD y [])).set x (encB r)).take (rcs (ls.getD y [])).length).flatten) := by rw [htk]; exact hWD
             have hBj : Byt ((ls.set y (((rcs (ls.getD y [])).set x (encB r)).flatten)).getD j []) := by rw [hgd]; by_cases q : j = y; (rw [if_pos q]; exact hWD); (rw [if_neg q]; exact hBs.at_ (by omega))
             have hj1 : j = y → (ls.set y (((rcs (ls.getD y [])).set x (encB r)).flatten)).getD j [] = (((rcs (ls.getD y [])).set x (encB r)).take (rcs (ls.getD y [])).length).flatten := fun q => by rw [hgd, if_pos q, htk]
             have hj2 : j ≠ y → (ls.set y (((rcs (ls.getD y [])).set x (encB r)).flatten)).getD j [] = ls.getD j [] := fun q => by rw [hgd, if_neg q]
             refine cw_skip ?_
             refine fn_next ?_
             refine cw_seq ?_
             refine cw_block ?_
             refine cw_seq ?_
             refine cw_draw H132 [0, 1, 2, 3, 4, 5, 6, 7, 8, 9, 10, 11, 12, 13, 14, 15, 16, 17, 18, 19, 20, 21, 22, 23, 24, 25, 26, 27, 28] [] (fun X HX => HX) (by kernel_rfl) (by kernel_rfl) (by rfl) ?_
             simp only [pick, List.getElem?_cons_succ, List.getElem?_cons_zero]
             refine hk_y (fun Y HY => y_mov rfl rfl) rfl rfl ?_
             refine hk_y (fun Y HY => y_fa rfl rfl kflaw34c_7 rfl) rfl rfl ?_
             refine hk_y (fun Y HY => y_ld rfl rfl kflaw34c_8 (HY.cell (i := 1) rfl rfl)) rfl rfl ?_
             refine hk_y (fun Y HY => y_eql rfl rfl rfl) rfl rfl ?_
             refine hk_y (fun Y HY => y_mov rfl rfl) rfl rfl ?_
             refine hk_splitd tv_all (d := 165) rfl (fun h135 => ?_) (fun h135 => ?_)
             ·skip
              refine hk_on (qy_yd fun Y HY => y_mov rfl rfl) rfl rfl rfl rfl ?_
              refine hk_on (qy_yd fun Y HY => y_mov rfl rfl) rfl rfl rfl rfl ?_
              refine hk_on (qy_yd fun Y HY => y_iar (HY.rd (i := 0) rfl) rfl rfl rfl kflaw34c_9 (rfl) (by omega) (Nat.mul_one _) (gj)) rfl rfl rfl rfl ?_
              refine hk_on (qy_yd fun Y HY => y_ldr (HY.rd (i := 0) rfl) rfl rfl kflaw34c_10 (gj)) rfl rfl rfl rfl ?_
              refine hk_on (qy_yd fun Y HY => y_mov rfl rfl) rfl rfl rfl rfl ?_
              refine hk_on (qy_yd fun Y HY => y_strne rfl rfl rfl (hBj) (hWB)) rfl rfl rfl rfl ?_
              refine hk_y (fun Y HY => y_pick rfl rfl rfl) rfl rfl ?_
              refine hk_y (fun Y HY => y_mov rfl rfl) rfl rfl ?_
              refine hk_splitd tv_all (d := 173) rfl (fun h136 => ?_) (fun h136 => ?_)
              · exact absurd (hj1 (by omega)) h136
              ·skip
               refine hk_on (qy_yd fun Y HY => y_mov rfl rfl) rfl rfl rfl rfl ?_
               refine hk_on (qy_yd fun Y HY => y_fa rfl rfl kflaw34c_7 rfl) rfl rfl rfl rfl ?_
               refine hk_on (qy_yd fun Y HY => y_ld rfl rfl kflaw34c_8 (HY.cell (i := 1) rfl rfl)) rfl rfl rfl rfl ?_
               refine hk_on (qy_yd fun Y HY => y_neq rfl rfl rfl) rfl rfl rfl rfl ?_
               refine hk_on (qy_yd fun Y HY => y_mov rfl rfl) rfl rfl rfl rfl ?_
               refine hk_splitd tv_all (d := 178) rfl (fun h137 => ?_) (fun h137 => ?_)
               ·skip
                refine hk_on (qy_yd fun Y HY => y_mov rfl rfl) rfl rfl rfl rfl ?_
                refine hk_on (qy_yd fun Y HY => y_mov rfl rfl) rfl rfl rfl rfl ?_
                refine hk_on (qy_yd fun Y HY => y_iar (HY.rd (i := 0) rfl) rfl rfl rfl kflaw34c_9 (rfl) (by omega) (Nat.mul_one _) (gj)) rfl rfl rfl rfl ?_
                refine hk_on (qy_yd fun Y HY => y_ldr (HY.rd (i := 0) rfl) rfl rfl kflaw34c_10 (gj)) rfl rfl rfl rfl ?_
                refine hk_on (qy_yd fun Y HY => y_mov rfl rfl) rfl rfl rfl rfl ?_
                refine hk_on (qy_yd fun Y HY => y_mov rfl rfl) rfl rfl rfl rfl ?_
                refine hk_on (qy_yd fun Y HY => y_iar (hlr.below HY.base) rfl rfl rfl kflaw34c_9 (rfl) (by omega) (Nat.mul_one _) (gl)) rfl rfl rfl rfl ?_
                refine hk_on (qy_yd fun Y HY => y_ldr (hlr.below HY.base) rfl rfl kflaw34c_10 (gl)) rfl rfl rfl rfl ?_
                refine hk_on (qy_yd fun Y HY => y_strne rfl rfl rfl (hBj) (hBs.at_ (by omega))) rfl rfl rfl rfl ?_
                refine hk_on (qy_yd fun Y HY => y_pick rfl rfl rfl) rfl rfl rfl rfl ?_
                refine hk_y (fun Y HY => y_pick rfl rfl rfl) rfl rfl ?_
                refine hk_nil ?_
                intro w138 H139
                refine tv_nil ?_
                refine fn_next ?_
                refine cw_condd rfl (fun h140 => ?_) (fun h140 => ?_)
                · exact absurd (hj2 (by omega)) h140
                ·skip
                 refine cw_skip ?_
                 refine fn_block ?_
                 refine fn_next ?_
                 refine cw_reg ?_
                 refine ry (y_mov rfl rfl) rfl rfl ?_
                 refine ry (y_add rfl rfl rfl (wi (by omega))) rfl rfl ?_
                 refine ry (y_asg rfl rfl) rfl rfl ?_
                 refine reg_nil ?_
                 refine fn_roundJ ⟨j + 1, rfl, H139, by omega, rfl⟩ ⟨rfl, trivial⟩ (by omega) (by repeat (first | exact kp_refl | refine kp_app rfl rfl ?_ | refine kp_cons rfl ?_)) rfl
               ·skip
                refine hk_off rfl rfl rfl rfl rfl ?_
                refine hk_off rfl rfl rfl rfl rfl ?_
                refine hk_off rfl rfl rfl rfl rfl ?_
                refine hk_off rfl rfl rfl rfl rfl ?_
                refine hk_off rfl rfl rfl rfl rfl ?_
                refine hk_off rfl rfl rfl rfl rfl ?_
                refine hk_off rfl rfl rfl rfl rfl ?_
                refine hk_off rfl rfl rfl rfl rfl ?_
                refine hk_off rfl rfl rfl rfl rfl ?_
                refine hk_on (qy_yd fun Y HY => y_pick rfl rfl rfl) rfl rfl rfl rfl ?_
                refine hk_y (fun Y HY => y_pick rfl rfl rfl) rfl rfl ?_
                refine hk_nil ?_
                intro w141 H142
                refine tv_nil ?_
                refine fn_next ?_
                refine cw_condf rfl ?_
                refine cw_skip ?_
                refine fn_block ?_
                refine fn_next ?_
                refine cw_reg ?_
                refine ry (y_mov rfl rfl) rfl rfl ?_
                refine ry (y_add rfl rfl rfl (wi (by omega))) rfl rfl ?_
                refine ry (y_asg rfl rfl) rfl rfl ?_
                refine reg_nil ?_
                refine fn_roundJ ⟨j + 1, rfl, H142, by omega, rfl⟩ ⟨rfl, trivial⟩ (by omega) (by repeat (first | exact kp_refl | refine kp_app rfl rfl ?_ | refine kp_cons rfl ?_)) rfl
             ·skip
              refine hk_off rfl rfl rfl rfl rfl ?_
              refine hk_off rfl rfl rfl rfl rfl ?_
              refine hk_off rfl rfl rfl rfl rfl ?_
              refine hk_off rfl rfl rfl rfl rfl ?_
              refine hk_off rfl rfl rfl rfl rfl ?_
              refine hk_off rfl rfl rfl rfl rfl ?_
              refine hk_y (fun Y HY => y_pick rfl rfl rfl) rfl rfl ?_
              refine hk_y (fun Y HY => y_mov rfl rfl) rfl rfl ?_
              refine hk_on (qy_yd fun Y HY => y_mov rfl rfl) rfl rfl rfl rfl ?_
              refine hk_on (qy_yd fun Y HY => y_fa rfl rfl kflaw34c_7 rfl) rfl rfl rfl rfl ?_
              refine hk_on (qy_yd fun Y HY => y_ld rfl rfl kflaw34c_8 (HY.cell (i := 1) rfl rfl)) rfl rfl rfl rfl ?_
              refine hk_on (qy_yd fun Y HY => y_neq rfl rfl rfl) rfl rfl rfl rfl ?_
              refine hk_on (qy_yd fun Y HY => y_mov rfl rfl) rfl rfl rfl rfl ?_
              refine hk_splitd tv_all (d := 178) rfl (fun h143 => ?_) (fun h143 => ?_)
              ·skip
               refine hk_on (qy_yd fun Y HY => y_mov rfl rfl) rfl rfl rfl rfl ?_
               refine hk_on (qy_yd fun Y HY => y_mov rfl rfl) rfl rfl rfl rfl ?_
               refine hk_on (qy_yd fun Y HY => y_iar (HY.rd (i := 0) rfl) rfl rfl rfl kflaw34c_9 (rfl) (by omega) (Nat.mul_one _) (gj)) rfl rfl rfl rfl ?_
               refine hk_on (qy_yd fun Y HY => y_ldr (HY.rd (i := 0) rfl) rfl rfl kflaw34c_10 (gj)) rfl rfl rfl rfl ?_
               refine hk_on (qy_yd fun Y HY => y_mov rfl rfl) rfl rfl rfl rfl ?_
               refine hk_on (qy_yd fun Y HY => y_mov rfl rfl) rfl rfl rfl rfl ?_
               refine hk_on (qy_yd fun Y HY => y_iar (hlr.below HY.base) rfl rfl rfl kflaw34c_9 (rfl) (by omega) (Nat.mul_one _) (gl)) rfl rfl rfl rfl ?_
               refine hk_on (qy_yd fun Y HY => y_ldr (hlr.below HY.base) rfl rfl kflaw34c_10 (gl)) rfl rfl rfl rfl ?_
               refine hk_on (qy_yd fun Y HY => y_strne rfl rfl rfl (hBj) (hBs.at_ (by omega))) rfl rfl rfl rfl ?_
               refine hk_on (qy_yd fun Y HY => y_pick rfl rfl rfl) rfl rfl rfl rfl ?_
               refine hk_y (fun Y HY => y_pick rfl rfl rfl) rfl rfl ?_
               refine hk_nil ?_
               intro w144 H145
               refine tv_nil ?_
               refine fn_next ?_
               refine cw_condd rfl (fun h146 => ?_) (fun h146 => ?_)
               · exact absurd (hj2 (by omega)) h146
               ·skip
                refine cw_skip ?_
                refine fn_block ?_
                refine fn_next ?_
                refine cw_reg ?_
                refine ry (y_mov rfl rfl) rfl rfl ?_
                refine ry (y_add rfl rfl rfl (wi (by omega))) rfl rfl ?_
                refine ry (y_asg rfl rfl) rfl rfl ?_
                refine reg_nil ?_
                refine fn_roundJ ⟨j + 1, rfl, H145, by omega, rfl⟩ ⟨rfl, trivial⟩ (by omega) (by repeat (first | exact kp_refl | refine kp_app rfl rfl ?_ | refine kp_cons rfl ?_)) rfl
              ·skip
               refine hk_off rfl rfl rfl rfl rfl ?_
               refine hk_off rfl rfl rfl rfl rfl ?_
               refine hk_off rfl rfl rfl rfl rfl ?_
               refine hk_off rfl rfl rfl rfl rfl ?_
               refine hk_off rfl rfl rfl rfl rfl ?_
               refine hk_off rfl rfl rfl rfl rfl ?_
               refine hk_off rfl rfl rfl rfl rfl ?_
               refine hk_off rfl rfl rfl rfl rfl ?_
               refine hk_off rfl rfl rfl rfl rfl ?_
               refine hk_on (qy_yd fun Y HY => y_pick rfl rfl rfl) rfl rfl rfl rfl ?_
               refine hk_y (fun Y HY => y_pick rfl rfl rfl) rfl rfl ?_
               refine hk_nil ?_
               intro w147 H148
               refine tv_nil ?_
               refine fn_next ?_
               refine cw_condf rfl ?_
               refine cw_skip ?_
               refine fn_block ?_
               refine fn_next ?_
               refine cw_reg ?_
               refine ry (y_mov rfl rfl) rfl rfl ?_
               refine ry (y_add rfl rfl rfl (wi (by omega))) rfl rfl ?_
               refine ry (y_asg rfl rfl) rfl rfl ?_
               refine reg_nil ?_
               refine fn_roundJ ⟨j + 1, rfl, H148, by omega, rfl⟩ ⟨rfl, trivial⟩ (by omega) (by repeat (first | exact kp_refl | refine kp_app rfl rfl ?_ | refine kp_cons rfl ?_)) rfl
            ·skip
             refine cw_exit ?_
             refine fn_then_exit (fn_then_exit (fn_block_exit ?_))
             refine fn_next ?_
             refine cw_seq ?_
             refine cw_reg ?_
             refine ry (y_asg rfl rfl) rfl rfl ?_
             refine reg_nil ?_
             refine fn_next ?_
             refine cw_ret ?_
             refine fn_ret1 rfl rfl ?_
             exact ⟨rfl, H132.base⟩
      · exfalso; omega
     · exfalso; omega
    · exfalso; omega
   ·skip
    refine cw_reg ?_
    refine ry (y_mov rfl rfl) rfl rfl ?_
    refine ry (y_ldb (i := 0) (cs := [_, _]) H93 rfl rfl kflaw34c_3 rfl rfl) rfl rfl ?_
    refine ry (y_mov rfl rfl) rfl rfl ?_
    refine reg_op (op_call (markForm LA nl lc x y r _ hs) rfl kflaw34c_5 ⟨rfl, rfl, rfl, trivial⟩) rfl rfl ?_
    rintro _ w150 ⟨rfl, e149⟩
    have H151 := H93.ext e149
    refine ry (y_mov rfl rfl) rfl rfl ?_
    refine ry (y_ext rfl rfl rfl) rfl rfl ?_
    refine ry (y_ext rfl rfl rfl) rfl rfl ?_
    refine ry (y_asg rfl rfl) rfl rfl ?_
    refine ry (y_asg rfl rfl) rfl rfl ?_
    refine reg_nil ?_
    refine fn_next ?_
    refine cw_seq ?_
    refine cw_reg ?_
    refine reg_op (op_lit (parts := []) (vs := []) (cs := []) H151 rfl Tryd.underlying52 kflaw34c_6 rfl trivial rfl rfl) rfl rfl ?_
    rintro _ w153 ⟨b152, rfl, H154⟩
    have H155 := H154.asrow (m := 0) (size := 1) rfl (by decide)
    refine ry (y_asg rfl rfl) rfl rfl ?_
    refine reg_nil ?_
    refine fn_next ?_
    refine cw_seq ?_
    refine cw_seq ?_
    refine cw_reg ?_
    refine ry (y_fa rfl rfl kflaw34c_7 rfl) rfl rfl ?_
    refine ry (y_ld rfl rfl kflaw34c_8 (H155.cell (i := 1) rfl rfl)) rfl rfl ?_
    refine ry (y_geq rfl rfl rfl) rfl rfl ?_
    refine ry (y_mov rfl rfl) rfl rfl ?_
    refine rg_splitd (d := 40) rfl (fun h156 => ?_) (fun h156 => ?_)
    ·skip
     refine rgy (y_fa rfl rfl kflaw34c_7 rfl) rfl rfl rfl rfl ?_
     refine rgy (y_ld rfl rfl kflaw34c_8 (H155.cell (i := 1) rfl rfl)) rfl rfl rfl rfl ?_
     refine rgy (y_mov rfl rfl) rfl rfl rfl rfl ?_
     refine rgy (y_len rfl Tryd.underlying52 rfl) rfl rfl rfl rfl ?_
     refine rgy (y_lss rfl rfl rfl) rfl rfl rfl rfl ?_
     refine ry (y_pick rfl rfl rfl) rfl rfl ?_
     refine reg_nil ?_
     refine fn_next ?_
     refine cw_condd rfl (fun h157 => ?_) (fun h157 => ?_)
     ·skip
      refine cw_reg ?_
      refine ry (y_mov rfl rfl) rfl rfl ?_
      refine ry (y_fa rfl rfl kflaw34c_7 rfl) rfl rfl ?_
      refine ry (y_ld rfl rfl kflaw34c_8 (H155.cell (i := 1) rfl rfl)) rfl rfl ?_
      refine ry (y_iar (hlr.below H155.base) rfl rfl rfl kflaw34c_9 (rfl) (by omega) (Nat.mul_one _) (gs)) rfl rfl ?_
      refine ry (y_ldr (hlr.below H155.base) rfl rfl kflaw34c_10 (gs)) rfl rfl ?_
      refine reg_op (op_call (refRunes (ls.getD y []) _ hBy hsy) rfl kflaw34c_11 ⟨rfl, trivial⟩) rfl rfl ?_
      rintro _ w159 ⟨A161, c162, rfl, k158⟩
      have H160 := H155.call k158
      refine ry (y_asg rfl rfl) rfl rfl ?_
      refine reg_nil ?_
      refine fn_next ?_
      refine cw_seq ?_
      refine cw_reg ?_
      refine ry (y_fa rfl rfl kflaw34c_12 rfl) rfl rfl ?_
      refine ry (y_ld rfl rfl kflaw34c_8 (H160.cell (i := 2) rfl rfl)) rfl rfl ?_
      refine ry (y_geq rfl rfl rfl) rfl rfl ?_
      refine ry (y_mov rfl rfl) rfl rfl ?_
      refine rg_splitd (d := 56) rfl (fun h163 => ?_) (fun h163 => ?_)
      ·skip
       refine rgy (y_fa rfl rfl kflaw34c_12 rfl) rfl rfl rfl rfl ?_
       refine rgy (y_ld rfl rfl kflaw34c_8 (H160.cell (i := 2) rfl rfl)) rfl rfl rfl rfl ?_
       refine rgy (y_mov rfl rfl) rfl rfl rfl rfl ?_
       refine rgy (y_len rfl Tryd.underlying52 rfl) rfl rfl rfl rfl ?_
       refine rgy (y_lss rfl rfl rfl) rfl rfl rfl rfl ?_
       refine ry (y_pick rfl rfl rfl) rfl rfl ?_
       refine ry (y_asg rfl rfl) rfl rfl ?_
       refine reg_nil ?_
       refine fn_next ?_
       refine cw_seq ?_
       refine cw_seq ?_
       refine cw_reg ?_
       refine ry (y_mov rfl rfl) rfl rfl ?_
       refine ry (y_notd rfl rfl) rfl rfl ?_
       refine reg_nil ?_
       refine fn_next ?_
       refine cw_condd rfl (fun h164 => ?_) (fun h164 => ?_)
       · exfalso; omega
       ·skip
        refine cw_skip ?_
        refine fn_next ?_
        refine cw_seq ?_
        refine cw_reg ?_
        refine ry (y_mov rfl rfl) rfl rfl ?_
        refine ry (y_fa rfl rfl kflaw34c_12 rfl) rfl rfl ?_
        refine ry (y_ld rfl rfl kflaw34c_8 (H160.cell (i := 2) rfl rfl)) rfl rfl ?_
        refine ry (y_iar (H160.rd (i := 0) rfl) rfl rfl rfl kflaw34c_9 (rfl) (by omega) (Nat.mul_one _) (gq)) rfl rfl ?_
        refine ry (y_ldr (H160.rd (i := 0) rfl) rfl rfl kflaw34c_10 (gq)) rfl rfl ?_
        refine reg_op (op_call (refRuneOk ((rcs (ls.getD y [])).getD x []) _ hqB hql hok) rfl kflaw34c_14 ⟨rfl, trivial⟩) rfl rfl ?_
        rintro _ w166 ⟨rfl, e165⟩
        have H167 := H160.ext e165
        refine ry (y_mov rfl rfl) rfl rfl ?_
        refine ry (y_ext rfl rfl rfl) rfl rfl ?_
        refine ry (y_ext rfl rfl rfl) rfl rfl ?_
        refine ry (y_asg rfl rfl) rfl rfl ?_
        refine ry (y_asg rfl rfl) rfl rfl ?_
        refine reg_nil ?_
        refine fn_next ?_
        refine cw_seq ?_
        refine cw_seq ?_
        refine cw_reg ?_
        refine ry (y_mov rfl rfl) rfl rfl ?_
        refine ry (y_mov rfl rfl) rfl rfl ?_
        refine rgy (y_mov rfl rfl) rfl rfl rfl rfl ?_
        refine rgy (y_mov rfl rfl) rfl rfl rfl rfl ?_
        refine rgy (y_neq rfl rfl rfl) rfl rfl rfl rfl ?_
        refine rgy (y_mov rfl rfl) rfl rfl rfl rfl ?_
        refine rg_splitd (d := 98) rfl (fun h168 => ?_) (fun h168 => ?_)
        · exact absurd rfl h168
        ·skip
         refine rgy (y_mov rfl rfl) rfl rfl rfl rfl ?_
         refine rgy (y_neq rfl rfl rfl) rfl rfl rfl rfl ?_
         refine rgy (y_pick rfl rfl rfl) rfl rfl rfl rfl ?_
         refine ry (y_pick rfl rfl rfl) rfl rfl ?_
         refine ry (y_mov rfl rfl) rfl rfl ?_
         refine rgy (y_mov rfl rfl) rfl rfl rfl rfl ?_
         refine rgy (y_not rfl rfl) rfl rfl rfl rfl ?_
         refine rgy (y_mov rfl rfl) rfl rfl rfl rfl ?_
         refine rg_off rfl rfl rfl rfl rfl ?_
         refine rg_off rfl rfl rfl rfl rfl ?_
         refine rg_off rfl rfl rfl rfl rfl ?_
         refine rg_offu rfl rfl rfl rfl ?_
         refine rg_offu rfl rfl rfl rfl ?_
         refine rg_off rfl rfl rfl rfl rfl ?_
         refine rgy (y_pick rfl rfl rfl) rfl rfl rfl rfl ?_
         refine ry (y_pick rfl rfl rfl) rfl rfl ?_
         refine reg_nil ?_
         refine fn_next ?_
         refine cw_condf rfl ?_
         refine cw_skip ?_
         refine fn_next ?_
         refine cw_seq ?_
         refine cw_seq ?_
         refine cw_reg ?_
         refine ry (y_mov rfl rfl) rfl rfl ?_
         refine reg_op (op_call (refSign3 r _) rfl kflaw34c_13 ⟨rfl, trivial⟩) rfl rfl ?_
         rintro _ w170 ⟨rfl, e169⟩
         have H171 := H167.ext e169
         refine ry (y_notd rfl rfl) rfl rfl ?_
         refine reg_nil ?_
         refine fn_next ?_
         refine cw_condd rfl (fun h172 => ?_) (fun h172 => ?_)
         ·skip
          refine cw_seq ?_
          refine cw_reg ?_
          refine ry (y_mov rfl rfl) rfl rfl ?_
          refine ry (y_len rfl Tryd.underlying52 rfl) rfl rfl ?_
          refine ry (y_eql rfl rfl rfl) rfl rfl ?_
          refine ry (y_mov rfl rfl) rfl rfl ?_
          refine rgy (y_mov rfl rfl) rfl rfl rfl rfl ?_
          refine rgy (y_eql rfl rfl rfl) rfl rfl rfl rfl ?_
          refine ry (y_pick rfl rfl rfl) rfl rfl ?_
          refine ry (y_asg rfl rfl) rfl rfl ?_
          refine reg_nil ?_
          refine fn_next ?_
          refine cw_ret ?_
          refine fn_then_ret ?_
          refine fn_ret1 rfl rfl ?_
          exact ⟨rfl, H171.base⟩
         · exact absurd (Classical.not_not.1 h172) hs
      · exfalso; omega
     · exfalso; omega
    · exfalso; omega

theorem chartMarks_all (LA : Option Addr) (nl lc : Nat) (ls : List (List Int)) (x y r : Int) (w : World) (hT : Tabs w) (hlr : Rd w LA (strs ls)) (hll : ls.length = nl) (hBs : Byts ls) (hx6 : x ≤ 9223372036854775807) : Ret Tryd.prog 7 [.slice LA nl lc, .agg #[.int .i64 x, .int .i64 y], .int .i32 r] w (fun z w' => z = .bool true ∧ Below w.heap.size w w') := by
  by_cases hno : 0 ≤ y ∧ y < (nl : Int) ∧ 0 ≤ x ∧ x < ((rcs (ls.getD y.toNat [])).length : Int)
  · obtain ⟨b, rfl⟩ : ∃ b : Nat, y = b := ⟨y.toNat, by omega⟩
    obtain ⟨a, rfl⟩ : ∃ a : Nat, x = a := ⟨x.toNat, by omega⟩
    simp only [Int.toNat_natCast] at hno
    exact chartMarks_yes LA nl lc ls a b r w hT hlr hll hBs (by omega) (by omega)
  · exact chartMarks_no LA nl lc ls x y r w hT hlr hll hBs hx6 hno

theorem chartMarks_law (ls : List (List Int)) (A0 : Option Addr) (n0 c0 : Nat) (cx cy : Int) (r : Int) (W : World) (hG : Tabs W) (hls : Rd W A0 (strs ls)) (lls : ls.length = n0) (le0 : n0 ≤ c0) (mx0 : c0 ≤ maxLen) (wls : ∀ x ∈ ls, Byt x) (bcx : I6 cx) (bcy : I6 cy) (br : (Lit.int .i32 r).wf = true) :
    Calls Tryd.prog 7 #[.slice A0 n0 c0, .agg #[.int .i64 cx, .int .i64 cy], .int .i32 r] W fun e w' => e = .returned (.bool true) ∧ Below W.heap.size W w' := lawOf (chartMarks_all A0 n0 c0 ls cx cy r W hG hls lls wls bcx.2)

end Go.Proofs.YtgkkbeomhkggjaaDoor
