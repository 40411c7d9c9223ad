/- Layer 35: the law of plays. -/
import Derived.Test.YtgkkbeomhkggjaaActs
set_option linter.unusedVariables false
set_option linter.unusedSimpArgs false
namespace Go.Proofs.Ytgkkbeomhkggjaa
open Go Go.RowKit
theorem kflaw35b_1 : callB Try.prog 8 = true := by kernel_rfl
theorem kflaw35b_2 : callB Try.prog 15 = true := by kernel_rfl
theorem kflaw35b_3 : callB Try.prog 9 = true := by kernel_rfl
theorem kflaw35b_4 : (Try.prog.info? 41).bind (fun i => i.zero.map Value.cells) = some (List.toArray [(.slice none 0 0), (.slice none 0 0)]) := by kernel_rfl
theorem kflaw35b_5 : szB Try.prog 41 2 = true := by kernel_rfl
theorem kflaw35b_6 : elB Try.prog 38 7 = true := by kernel_rfl
theorem kflaw35b_7 : fldB Try.prog 43 0 0 = true := by kernel_rfl
theorem kflaw35b_8 : oneB Try.prog 5 = true := by kernel_rfl
theorem kflaw35b_9 : aggB Try.prog 41 2 = true := by kernel_rfl
theorem kflaw35b_10 : fldB Try.prog 43 1 1 = true := by kernel_rfl
theorem kflaw35b_11 : aggB Try.prog 30 6 = true := by kernel_rfl
theorem kflaw35b_12 : callB Try.prog 16 = true := by kernel_rfl
theorem kflaw35b_13 : callB Try.prog 10 = true := by kernel_rfl
theorem kflaw35b_14 : callB Try.prog 20 = true := by kernel_rfl
theorem kflaw35b_15 : fldB Try.prog 41 0 0 = true := by kernel_rfl
theorem kflaw35b_16 : oneB Try.prog 22 = true := by kernel_rfl
theorem kflaw35b_17 : fldB Try.prog 41 1 1 = true := by kernel_rfl
theorem kflaw35b_18 : callB Try.prog 12 = true := by kernel_rfl
theorem kflaw35b_19 : (Try.prog.info? 30).bind (fun i => i.zero.map Value.cells) = some (List.toArray [(.int .i64 0), (.int .i64 0), (.int .i64 0), (.int .i64 0), (.slice none 0 0), (.slice none 0 0)]) := by kernel_rfl
theorem kflaw35b_20 : szB Try.prog 30 6 = true := by kernel_rfl
theorem kflaw35b_21 : callB Try.prog 17 = true := by kernel_rfl
theorem kflaw35b_22 : callB Try.prog 13 = true := by kernel_rfl
theorem kflaw35b_23 : callB Try.prog 14 = true := by kernel_rfl
theorem kflaw35b_24 : callB Try.prog 18 = true := by kernel_rfl
theorem kflaw35b_25 : callB Try.prog 19 = true := by kernel_rfl
theorem vlen {ds us : List Pt} : ((((ds ++ us).map Pt.pv).length - ds.length : Nat) : Int) = (us.length : Int) := by rw [List.length_map, List.length_append]; omega
theorem dNu_len {ds us : List Pt} {p : Pt} (h : (ds ++ us).length ≤ 40) : (dN ds p ++ uN us p).length ≤ 40 := by
  rw [List.length_append] at h ⊢
  unfold dN uN
  split
  · rw [mdDid_len (by omega)]; simp only [List.length_nil]; split <;> omega
  · exact h
def SmP (w : World) (l : List Pt) : Prop := ∀ x ∈ l, x.ok w ∧ x.o.n ≤ 300 ∧ x.q.n ≤ 300
theorem SmP_nil {w : World} : SmP w ([] ++ []) := fun x hx => by cases hx
theorem SmP.pv {w : World} {l : List Pt} (h : SmP w l) : ∀ x ∈ l, x.pv.ok := fun x hx => (h x hx).1.pv (by have := (h x hx).2.1; omega) (by have := (h x hx).2.2; omega)
theorem SmP.bV {w : World} {ds us : List Pt} (h : SmP w (ds ++ us)) : (bV ds).o.length ≤ 4000000 ∧ (bV ds).q.length ≤ 4000000 := by
  unfold Go.Proofs.Ytgkkbeomhkggjaa.bV
  split
  · exact ⟨Nat.zero_le _, Nat.zero_le _⟩
  · have hx := h (pI ds (ds.length - 1)) (List.mem_append_left _ (pI_mem (by omega)))
    refine ⟨?_, ?_⟩
    · show (pI ds (ds.length - 1)).q.zs.length ≤ _; rw [hx.1.hq.len]; have := hx.2.2; omega
    · show (pI ds (ds.length - 1)).o.zs.length ≤ _; rw [hx.1.ho.len]; have := hx.2.1; omega
theorem SmP.aV {w : World} {ds us : List Pt} (h : SmP w (ds ++ us)) : (aV us).o.length ≤ 4000000 ∧ (aV us).q.length ≤ 4000000 := by
  unfold Go.Proofs.Ytgkkbeomhkggjaa.aV
  split
  · exact ⟨Nat.zero_le _, Nat.zero_le _⟩
  · have hx := h (pI us 0) (List.mem_append_right _ (pI_mem (by omega)))
    refine ⟨?_, ?_⟩
    · show (pI us 0).o.zs.length ≤ _; rw [hx.1.ho.len]; have := hx.2.1; omega
    · show (pI us 0).q.zs.length ≤ _; rw [hx.1.hq.len]; have := hx.2.2; omega

set_option maxRecDepth 100000 in
theorem pastPlays_big (A : Option Addr) (n c : Nat) (acl : List Ac) (w : World) (hr : Rd w A (acCells acl)) (hl : acl.length = n) (hbig : ¬ (n ≤ 200 ∧ ∀ x ∈ acl, x.p.o.n ≤ 300 ∧ x.p.q.n ≤ 300)) :
    Ret Try.prog 4 [.slice A n c] w (fun z w' => z = .bool true ∧ Below w.heap.size w w') := by
 refine ret_enter Try.func4 rfl rfl rfl ?_
 have H0 := HS.start w
 refine cw_seq ?_
 refine cw_reg ?_
 refine ry (y_asg rfl rfl) rfl rfl ?_
 refine reg_nil ?_
 refine fn_next ?_
 refine cw_seq ?_
 refine cw_seq ?_
 refine cw_reg ?_
 refine reg_op (op_call (pastAwake _) rfl kflaw35b_1 trivial) rfl rfl ?_
 rintro _ w2 ⟨rfl, e1⟩
 have H3 := H0.ext e1
 refine ry (y_not rfl rfl) rfl rfl ?_
 refine reg_nil ?_
 refine fn_next ?_
 refine cw_condf rfl ?_
 refine cw_skip ?_
 refine fn_next ?_
 refine cw_seq ?_
 refine cw_seq ?_
 refine cw_reg ?_
 refine ry (y_mov rfl rfl) rfl rfl ?_
 refine reg_op (op_call (actsBig_yes A n c 200 acl _ (hr.below H3.base) hl (by omega) hbig) rfl kflaw35b_2 ⟨rfl, rfl, trivial⟩) rfl rfl ?_
 rintro _ w5 ⟨rfl, e4⟩
 have H6 := H3.ext e4
 refine reg_nil ?_
 refine fn_next ?_
 refine cw_condt rfl ?_
 refine cw_seq ?_
 refine cw_reg ?_
 refine ry (y_asg rfl rfl) rfl rfl ?_
 refine reg_nil ?_
 refine fn_next ?_
 refine cw_ret ?_
 refine fn_then_ret ?_
 refine fn_ret1 rfl rfl ?_
 exact ⟨rfl, H6.base⟩

set_option maxRecDepth 100000 in
set_option maxHeartbeats 4000000 in
theorem pastPlays_ok (A : Option Addr) (n c : Nat) (acl : List Ac) (w : World) (hr : Rd w A (acCells acl)) (hl : acl.length = n) (hok : n ≤ 200 ∧ ∀ x ∈ acl, x.p.o.n ≤ 300 ∧ x.p.q.n ≤ 300) (hall : ∀ x ∈ acl, x.p.ok w) :
    Ret Try.prog 4 [.slice A n c] w (fun z w' => z = .bool true ∧ Below w.heap.size w w') := by
 have H0 : HS w w [] := HS.start w
 refine ret_enter Try.func4 rfl rfl rfl ?_
 refine cw_seq ?_
 refine cw_reg ?_
 refine ry (y_asg rfl rfl) rfl rfl ?_
 refine reg_nil ?_
 refine fn_next ?_
 refine cw_seq ?_
 refine cw_seq ?_
 refine cw_reg ?_
 refine reg_op (op_call (pastAwake _) rfl kflaw35b_1 trivial) rfl rfl ?_
 rintro _ w2 ⟨rfl, e1⟩
 have H3 := H0.ext e1
 refine ry (y_not rfl rfl) rfl rfl ?_
 refine reg_nil ?_
 refine fn_next ?_
 refine cw_condf rfl ?_
 refine cw_skip ?_
 refine fn_next ?_
 refine cw_seq ?_
 refine cw_seq ?_
 refine cw_reg ?_
 refine ry (y_mov rfl rfl) rfl rfl ?_
 refine reg_op (op_call (actsBig_no A n c 200 acl _ (hr.below H3.base) hl (by omega) hok) rfl kflaw35b_2 ⟨rfl, rfl, trivial⟩) rfl rfl ?_
 rintro _ w5 ⟨rfl, e4⟩
 have H6 := H3.ext e4
 refine reg_nil ?_
 refine fn_next ?_
 refine cw_condf rfl ?_
 refine cw_skip ?_
 refine fn_next ?_
 refine cw_seq ?_
 refine cw_reg ?_
 refine reg_op (op_call (pNew _) rfl kflaw35b_3 trivial) rfl rfl ?_
 rintro _ w8 ⟨b10, rfl, bl11, k7⟩
 have H9 := H6.call k7
 refine ry (y_asg rfl rfl) rfl rfl ?_
 refine reg_nil ?_
 refine fn_next ?_
 refine cw_seq ?_
 refine cw_reg ?_
 refine ry (y_build (places := [(0, 1), (1, 1)]) (parts := []) (vs := []) (cs := [.slice _ _ _, .slice _ _ _]) rfl Try.underlying41 (by kernel_rfl) kflaw35b_4 rfl trivial rfl) rfl rfl ?_
 refine reg_op (op_alloc H9 rfl kflaw35b_4) rfl rfl ?_
 rintro _ w13 ⟨b12, rfl, H14⟩
 refine reg_op (op_st (i := 0) (vs := [.slice _ _ _, .slice _ _ _]) H14 rfl rfl rfl rfl rfl kflaw35b_5 rfl rfl rfl) rfl rfl ?_
 rintro _ w15 H16
 refine reg_nil ?_
 refine fn_next ?_
 refine cw_seq ?_
 refine cw_seq ?_
 refine cw_reg ?_
 refine ry (y_asg rfl rfl) rfl rfl ?_
 refine reg_nil ?_
 refine fn_next ?_
 refine cw_block ?_
 refine cw_loopJ [2, 5, 6, 7, 8, 9, 10, 11, 12, 13, 14, 15, 16, 17, 18, 19, 26, 27, 28, 29, 30, 31, 32, 33, 34, 35, 36, 37, 38, 39, 40, 41, 42, 43, 44, 45, 46, 47, 48, 49, 50, 51, 52, 53, 54, 55, 56, 57, 58, 59, 60, 61, 62, 63, 64, 65, 66, 67, 68, 69, 70, 71, 72, 73, 74, 75, 76, 77, 78, 79, 80, 81, 82, 83, 84, 85, 86, 87, 88, 89, 90, 91, 92, 93, 94, 95, 96, 97, 98, 99, 100, 101, 102, 103, 104, 105, 106, 107, 108, 109, 110, 111, 112, 113, 114, 115, 116, 117, 118, 119, 120, 121, 122, 123, 124, 125, 126] (fun M wl ml => ∃ (i : Nat) (ds us : List Pt) (DA : Option Addr) (dc : Nat) (UA : Option Addr) (uc : Nat) (bl' : Nat → Prop) (lt : List Ob), M = [(5, .int .i64 (i : Int))] ∧ HS w wl (pOb b10 ((ds ++ us).map Pt.pv) (ds).length bl' :: Ob.blk b12 [.slice DA ds.length dc, .slice UA us.length uc] 41 :: lt) ∧ (i ≤ n) ∧ (∀ X, HS w X lt → Rd X DA (ptCells ds)) ∧ (∀ X, HS w X lt → Rd X UA (ptCells us)) ∧ (ds.length ≤ dc ∧ us.length ≤ uc ∧ (ds ++ us).length ≤ 40) ∧ (SmP w (ds ++ us)) ∧ ml = n - i) ⟨0, [], [], none, 0, none, 0, bl11, [], rfl, (H16.pickT (p := [_, _]) (m := [_, _]) [1, 0] rfl (by decide)), Nat.zero_le _, fun X _ j u hu => by simp [ptCells] at hu, fun X _ j u hu => by simp [ptCells] at hu, ⟨Nat.le_refl _, Nat.le_refl _, Nat.zero_le _⟩, SmP_nil, rfl⟩ ⟨rfl, trivial⟩ ?_
 rintro M w17 m19 ⟨i, ds, us, DA, dc, UA, uc, bl', lt, rfl, H18, hp0, hD, hU, hcc, hS, rfl⟩
 refine cw_seq ?_
 refine cw_seq ?_
 refine cw_reg ?_
 refine ry (y_mov rfl rfl) rfl rfl ?_
 refine ry (y_mov rfl rfl) rfl rfl ?_
 refine ry (y_len rfl Try.underlying38 rfl) rfl rfl ?_
 refine ry (y_lss rfl rfl rfl) rfl rfl ?_
 refine reg_nil ?_
 refine fn_next ?_
 refine cw_condd rfl (fun h20 => ?_) (fun h20 => ?_)
 ·skip
  have pq : ∀ (j : Nat) (v : Value), ([.int .u8 (acI acl i).k, .int .i64 (acI acl i).p.x0, .int .i64 (acI acl i).p.y0, .int .i64 (acI acl i).p.x1, .int .i64 (acI acl i).p.y1, .slice (acI acl i).p.o.A (acI acl i).p.o.n (acI acl i).p.o.c, .slice (acI acl i).p.q.A (acI acl i).p.q.n (acI acl i).p.q.c] : List Value)[j]? = some v → (acCells acl)[i * 7 + j]? = some v := ac_get (acI_get (by omega))
  have pq1 : ∀ (j : Nat) (v : Value), ([.int .i64 (acI acl i).p.x0, .int .i64 (acI acl i).p.y0, .int .i64 (acI acl i).p.x1, .int .i64 (acI acl i).p.y1, .slice (acI acl i).p.o.A (acI acl i).p.o.n (acI acl i).p.o.c, .slice (acI acl i).p.q.A (acI acl i).p.q.n (acI acl i).p.q.c] : List Value)[j]? = some v → (acCells acl)[i * 7 + 1 + j]? = some v := fun j v hj => by rw [show i * 7 + 1 + j = i * 7 + (j + 1) by omega]; exact pq (j + 1) v hj
  have hx := hall _ (acI_mem (l := acl) (i := i) (by omega))
  have hs2 := hok.2 _ (acI_mem (l := acl) (i := i) (by omega))
  refine cw_skip ?_
  refine fn_next ?_
  refine cw_seq ?_
  refine cw_block ?_
  refine cw_seq ?_
  refine cw_seq ?_
  refine cw_reg ?_
  refine ry (y_mov rfl rfl) rfl rfl ?_
  refine ry (y_mov rfl rfl) rfl rfl ?_
  refine ry (y_iar (i := i) ((hr.below H18.base)) rfl rfl rfl kflaw35b_6 (rfl) (by omega) (rfl) (pq 0 _ rfl)) rfl rfl ?_
  refine ry (y_far ((hr.below H18.base)) rfl rfl kflaw35b_7 rfl (pq 0 _ rfl)) rfl rfl ?_
  refine ry (y_ldr ((hr.below H18.base)) rfl rfl kflaw35b_8 (pq 0 _ rfl)) rfl rfl ?_
  refine reg_nil ?_
  refine fn_next ?_
  refine cw_block ?_
  refine cw_seq ?_
  refine cw_reg ?_
  refine ry (y_eql rfl rfl rfl) rfl rfl ?_
  refine ry (y_asg rfl rfl) rfl rfl ?_
  refine reg_nil ?_
  refine fn_next ?_
  refine cw_condd rfl (fun h21 => ?_) (fun h21 => ?_)
  ·skip
   refine cw_seq ?_
   refine cw_drawT H18 [0, 1, 2, 3, 4, 5] (.alt (.step 6 (.alt (.step 7 (.alt (.step 8 (.alt (.step 9 (.step 10 (.step 11 (.step 12 (.leaf))))) (.step 10 (.alt (.step 9 (.step 11 (.step 12 (.leaf)))) (.step 11 (.step 9 (.step 12 (.leaf)))))))) (.alt (.step 9 (.alt (.step 8 (.step 10 (.step 11 (.step 12 (.leaf))))) (.step 10 (.step 8 (.step 11 (.step 12 (.leaf))))))) (.step 10 (.alt (.step 8 (.alt (.step 9 (.step 11 (.step 12 (.leaf)))) (.step 11 (.step 9 (.step 12 (.leaf)))))) (.step 9 (.step 8 (.step 11 (.step 12 (.leaf)))))))))) (.step 10 (.step 7 (.alt (.step 8 (.alt (.step 9 (.step 11 (.step 12 (.leaf)))) (.step 11 (.step 9 (.step 12 (.leaf)))))) (.step 9 (.step 8 (.step 11 (.step 12 (.leaf)))))))))) (.step 10 (.step 6 (.step 7 (.alt (.step 8 (.alt (.step 9 (.step 11 (.step 12 (.leaf)))) (.step 11 (.step 9 (.step 12 (.leaf)))))) (.step 9 (.step 8 (.step 11 (.step 12 (.leaf)))))))))) (fun X HX => (HS.left (l := [_, _]) HX)) (by kernel_rfl) (by kernel_rfl) (by rfl) ?_
   simp only [pick, List.getElem?_cons_succ, List.getElem?_cons_zero]
   refine hk_y (fun Y HY => y_ldb (i := 1) (cs := [_, _]) HY rfl rfl kflaw35b_9 rfl rfl) rfl rfl ?_
   refine hk_y (fun Y HY => y_mov rfl rfl) rfl rfl ?_
   refine hk_y (fun Y HY => y_mov rfl rfl) rfl rfl ?_
   refine hk_y (fun Y HY => y_iar (i := i) ((hr.below HY.base)) rfl rfl rfl kflaw35b_6 (rfl) (by omega) (rfl) (pq 0 _ rfl)) rfl rfl ?_
   refine hk_y (fun Y HY => y_far ((hr.below HY.base)) rfl rfl kflaw35b_10 rfl (pq 0 _ rfl)) rfl rfl ?_
   refine hk_y (fun Y HY => y_ldra (cs := [_, _, _, _, _, _]) ((hr.below HY.base)) rfl rfl kflaw35b_11 rfl (by decide) (fun j v hv => pq1 j v hv)) rfl rfl ?_
   refine hkt_nil [6, 7, 39, 46, 47, 48] (fun M wl => ∃ (b' : Nat) (A2 : Option Addr) (c2 : Nat) (U2 : Option Addr) (u2 : Nat) (lt2 : List Ob), M = [(6, .pointer (some ⟨b', 0, none⟩)), (7, .int .i64 (if (acI acl i).p.rightP then 0 else 13))] ∧ HS w wl (Ob.blk b' [.slice A2 (dN ds (acI acl i).p).length c2, .slice U2 (uN us (acI acl i).p).length u2] 41 :: pOb b10 ((ds ++ us).map Pt.pv) (ds).length bl' :: Ob.blk b12 [.slice DA ds.length dc, .slice UA us.length uc] 41 :: lt2) ∧ ((dN ds (acI acl i).p).length ≤ c2) ∧ ((uN us (acI acl i).p).length ≤ u2) ∧ (∀ X, HS w X lt2 → Rd X A2 (ptCells (dN ds (acI acl i).p))) ∧ (∀ X, HS w X lt2 → Rd X U2 (ptCells (uN us (acI acl i).p)))) (fun wX HX => ?_) ?_
   ·skip
    refine tt_alt ?_ ?_
    ·skip
     refine tt_op rfl (op_call (mdDid_any w [_, _] lt DA dc ds UA uc us (acI acl i).p _ hx (by omega) (by omega) hD hU hcc.1 hcc.2.1 (by have := hcc.2.2; rw [List.length_append] at this; omega) (by have := hcc.2.2; rw [List.length_append] at this; omega) HX) rfl kflaw35b_12 ⟨rfl, rfl, trivial⟩) rfl rfl ?_
     rintro _ w23 ⟨A24, c25, U26, u27, lz28, rfl, p29, q30, hz31, hy32, H22⟩
     refine ⟨(HS.left (l := [_, _]) H22), fun w33 e35 => ?_⟩
     have H34 := H22.ext e35
     refine tt_alt ?_ ?_
     ·skip
      refine tt_op rfl (Yd.op (y_mov rfl rfl)) rfl rfl ?_
      rintro _ _ ⟨rfl, rfl⟩
      refine ⟨(HS.left (l := [_, _]) H34), fun w36 e38 => ?_⟩
      have H37 := H34.ext e38
      refine tt_alt ?_ ?_
      ·skip
       refine tt_op rfl (Yd.op (y_ext rfl rfl rfl)) rfl rfl ?_
       rintro _ _ ⟨rfl, rfl⟩
       refine ⟨(HS.left (l := [_, _]) H37), fun w39 e41 => ?_⟩
       have H40 := H37.ext e41
       refine tt_alt ?_ ?_
       ·skip
        refine tt_op rfl (Yd.op (y_ext rfl rfl rfl)) rfl rfl ?_
        rintro _ _ ⟨rfl, rfl⟩
        refine ⟨(HS.left (l := [_, _]) H40), fun w42 e44 => ?_⟩
        have H43 := H40.ext e44
        refine tt_op rfl (op_alloc H43 rfl kflaw35b_4) rfl rfl ?_
        rintro _ w46 ⟨b45, rfl, H47⟩
        refine ⟨(HS.left (l := [_, _]) (H47.pickT (p := [_, _, _]) (m := [_, _]) [1, 2] rfl (by decide))), fun w48 e50 => ?_⟩
        have H49 := H47.ext e50
        refine tt_op rfl (op_st (i := 0) (vs := [.slice _ _ _, .slice _ _ _]) H49 rfl rfl rfl rfl rfl kflaw35b_5 rfl rfl rfl) rfl rfl ?_
        rintro _ w51 H52
        refine ⟨(HS.left (l := [_, _]) (H52.pickT (p := [_, _, _]) (m := [_, _]) [1, 2] rfl (by decide))), fun w53 e55 => ?_⟩
        have H54 := H52.ext e55
        refine tt_op rfl (Yd.op (y_asg rfl rfl)) rfl rfl ?_
        rintro _ _ ⟨rfl, rfl⟩
        refine ⟨(HS.left (l := [_, _]) (H54.pickT (p := [_, _, _]) (m := [_, _]) [1, 2] rfl (by decide))), fun w56 e58 => ?_⟩
        have H57 := H54.ext e58
        exact tt_leaf ⟨b45, A24, c25, U26, u27, lz28, rfl, H57, p29, q30, hz31, hy32⟩ ⟨rfl, rfl, trivial⟩ (by repeat (first | exact kp_refl | refine kp_app rfl rfl ?_ | refine kp_cons rfl ?_))
       refine tt_op rfl (op_alloc H40 rfl kflaw35b_4) rfl rfl ?_
       rintro _ w60 ⟨b59, rfl, H61⟩
       refine ⟨(HS.left (l := [_, _]) (H61.pickT (p := [_, _, _]) (m := [_, _]) [1, 2] rfl (by decide))), fun w62 e64 => ?_⟩
       have H63 := H61.ext e64
       refine tt_alt ?_ ?_
       ·skip
        refine tt_op rfl (Yd.op (y_ext rfl rfl rfl)) rfl rfl ?_
        rintro _ _ ⟨rfl, rfl⟩
        refine ⟨(HS.left (l := [_, _]) (H63.pickT (p := [_, _, _]) (m := [_, _]) [1, 2] rfl (by decide))), fun w65 e67 => ?_⟩
        have H66 := H63.ext e67
        refine tt_op rfl (op_st (i := 0) (vs := [.slice _ _ _, .slice _ _ _]) H66 rfl rfl rfl rfl rfl kflaw35b_5 rfl rfl rfl) rfl rfl ?_
        rintro _ w68 H69
        refine ⟨(HS.left (l := [_, _]) (H69.pickT (p := [_, _, _]) (m := [_, _]) [1, 2] rfl (by decide))), fun w70 e72 => ?_⟩
        have H71 := H69.ext e72
        refine tt_op rfl (Yd.op (y_asg rfl rfl)) rfl rfl ?_
        rintro _ _ ⟨rfl, rfl⟩
        refine ⟨(HS.left (l := [_, _]) (H71.pickT (p := [_, _, _]) (m := [_, _]) [1, 2] rfl (by decide))), fun w73 e75 => ?_⟩
        have H74 := H71.ext e75
        exact tt_leaf ⟨b59, A24, c25, U26, u27, lz28, rfl, H74, p29, q30, hz31, hy32⟩ ⟨rfl, rfl, trivial⟩ (by repeat (first | exact kp_refl | refine kp_app rfl rfl ?_ | refine kp_cons rfl ?_))
       refine tt_op rfl (op_st (i := 0) (vs := [.slice _ _ _, .slice _ _ _]) H63 rfl rfl rfl rfl rfl kflaw35b_5 rfl rfl rfl) rfl rfl ?_
       rintro _ w76 H77
       refine ⟨(HS.left (l := [_, _]) (H77.pickT (p := [_, _, _]) (m := [_, _]) [1, 2] rfl (by decide))), fun w78 e80 => ?_⟩
       have H79 := H77.ext e80
       refine tt_op rfl (Yd.op (y_ext rfl rfl rfl)) rfl rfl ?_
       rintro _ _ ⟨rfl, rfl⟩
       refine ⟨(HS.left (l := [_, _]) (H79.pickT (p := [_, _, _]) (m := [_, _]) [1, 2] rfl (by decide))), fun w81 e83 => ?_⟩
       have H82 := H79.ext e83
       refine tt_op rfl (Yd.op (y_asg rfl rfl)) rfl rfl ?_
       rintro _ _ ⟨rfl, rfl⟩
       refine ⟨(HS.left (l := [_, _]) (H82.pickT (p := [_, _, _]) (m := [_, _]) [1, 2] rfl (by decide))), fun w84 e86 => ?_⟩
       have H85 := H82.ext e86
       exact tt_leaf ⟨b59, A24, c25, U26, u27, lz28, rfl, H85, p29, q30, hz31, hy32⟩ ⟨rfl, rfl, trivial⟩ (by repeat (first | exact kp_refl | refine kp_app rfl rfl ?_ | refine kp_cons rfl ?_))
      refine tt_alt ?_ ?_
      ·skip
       refine tt_op rfl (Yd.op (y_ext rfl rfl rfl)) rfl rfl ?_
       rintro _ _ ⟨rfl, rfl⟩
       refine ⟨(HS.left (l := [_, _]) H37), fun w87 e89 => ?_⟩
       have H88 := H37.ext e89
       refine tt_alt ?_ ?_
       ·skip
        refine tt_op rfl (Yd.op (y_ext rfl rfl rfl)) rfl rfl ?_
        rintro _ _ ⟨rfl, rfl⟩
        refine ⟨(HS.left (l := [_, _]) H88), fun w90 e92 => ?_⟩
        have H91 := H88.ext e92
        refine tt_op rfl (op_alloc H91 rfl kflaw35b_4) rfl rfl ?_
        rintro _ w94 ⟨b93, rfl, H95⟩
        refine ⟨(HS.left (l := [_, _]) (H95.pickT (p := [_, _, _]) (m := [_, _]) [1, 2] rfl (by decide))), fun w96 e98 => ?_⟩
        have H97 := H95.ext e98
        refine tt_op rfl (op_st (i := 0) (vs := [.slice _ _ _, .slice _ _ _]) H97 rfl rfl rfl rfl rfl kflaw35b_5 rfl rfl rfl) rfl rfl ?_
        rintro _ w99 H100
        refine ⟨(HS.left (l := [_, _]) (H100.pickT (p := [_, _, _]) (m := [_, _]) [1, 2] rfl (by decide))), fun w101 e103 => ?_⟩
        have H102 := H100.ext e103
        refine tt_op rfl (Yd.op (y_asg rfl rfl)) rfl rfl ?_
        rintro _ _ ⟨rfl, rfl⟩
        refine ⟨(HS.left (l := [_, _]) (H102.pickT (p := [_, _, _]) (m := [_, _]) [1, 2] rfl (by decide))), fun w104 e106 => ?_⟩
        have H105 := H102.ext e106
        exact tt_leaf ⟨b93, A24, c25, U26, u27, lz28, rfl, H105, p29, q30, hz31, hy32⟩ ⟨rfl, rfl, trivial⟩ (by repeat (first | exact kp_refl | refine kp_app rfl rfl ?_ | refine kp_cons rfl ?_))
       refine tt_op rfl (op_alloc H88 rfl kflaw35b_4) rfl rfl ?_
       rintro _ w108 ⟨b107, rfl, H109⟩
       refine ⟨(HS.left (l := [_, _]) (H109.pickT (p := [_, _, _]) (m := [_, _]) [1, 2] rfl (by decide))), fun w110 e112 => ?_⟩
       have H111 := H109.ext e112
       refine tt_op rfl (Yd.op (y_ext rfl rfl rfl)) rfl rfl ?_
       rintro _ _ ⟨rfl, rfl⟩
       refine ⟨(HS.left (l := [_, _]) (H111.pickT (p := [_, _, _]) (m := [_, _]) [1, 2] rfl (by decide))), fun w113 e115 => ?_⟩
       have H114 := H111.ext e115
       refine tt_op rfl (op_st (i := 0) (vs := [.slice _ _ _, .slice _ _ _]) H114 rfl rfl rfl rfl rfl kflaw35b_5 rfl rfl rfl) rfl rfl ?_
       rintro _ w116 H117
       refine ⟨(HS.left (l := [_, _]) (H117.pickT (p := [_, _, _]) (m := [_, _]) [1, 2] rfl (by decide))), fun w118 e120 => ?_⟩
       have H119 := H117.ext e120
       refine tt_op rfl (Yd.op (y_asg rfl rfl)) rfl rfl ?_
       rintro _ _ ⟨rfl, rfl⟩
       refine ⟨(HS.left (l := [_, _]) (H119.pickT (p := [_, _, _]) (m := [_, _]) [1, 2] rfl (by decide))), fun w121 e123 => ?_⟩
       have H122 := H119.ext e123
       exact tt_leaf ⟨b107, A24, c25, U26, u27, lz28, rfl, H122, p29, q30, hz31, hy32⟩ ⟨rfl, rfl, trivial⟩ (by repeat (first | exact kp_refl | refine kp_app rfl rfl ?_ | refine kp_cons rfl ?_))
      refine tt_op rfl (op_alloc H37 rfl kflaw35b_4) rfl rfl ?_
      rintro _ w125 ⟨b124, rfl, H126⟩
      refine ⟨(HS.left (l := [_, _]) (H126.pickT (p := [_, _, _]) (m := [_, _]) [1, 2] rfl (by decide))), fun w127 e129 => ?_⟩
      have H128 := H126.ext e129
      refine tt_alt ?_ ?_
      ·skip
       refine tt_op rfl (Yd.op (y_ext rfl rfl rfl)) rfl rfl ?_
       rintro _ _ ⟨rfl, rfl⟩
       refine ⟨(HS.left (l := [_, _]) (H128.pickT (p := [_, _, _]) (m := [_, _]) [1, 2] rfl (by decide))), fun w130 e132 => ?_⟩
       have H131 := H128.ext e132
       refine tt_alt ?_ ?_
       ·skip
        refine tt_op rfl (Yd.op (y_ext rfl rfl rfl)) rfl rfl ?_
        rintro _ _ ⟨rfl, rfl⟩
        refine ⟨(HS.left (l := [_, _]) (H131.pickT (p := [_, _, _]) (m := [_, _]) [1, 2] rfl (by decide))), fun w133 e135 => ?_⟩
        have H134 := H131.ext e135
        refine tt_op rfl (op_st (i := 0) (vs := [.slice _ _ _, .slice _ _ _]) H134 rfl rfl rfl rfl rfl kflaw35b_5 rfl rfl rfl) rfl rfl ?_
        rintro _ w136 H137
        refine ⟨(HS.left (l := [_, _]) (H137.pickT (p := [_, _, _]) (m := [_, _]) [1, 2] rfl (by decide))), fun w138 e140 => ?_⟩
        have H139 := H137.ext e140
        refine tt_op rfl (Yd.op (y_asg rfl rfl)) rfl rfl ?_
        rintro _ _ ⟨rfl, rfl⟩
        refine ⟨(HS.left (l := [_, _]) (H139.pickT (p := [_, _, _]) (m := [_, _]) [1, 2] rfl (by decide))), fun w141 e143 => ?_⟩
        have H142 := H139.ext e143
        exact tt_leaf ⟨b124, A24, c25, U26, u27, lz28, rfl, H142, p29, q30, hz31, hy32⟩ ⟨rfl, rfl, trivial⟩ (by repeat (first | exact kp_refl | refine kp_app rfl rfl ?_ | refine kp_cons rfl ?_))
       refine tt_op rfl (op_st (i := 0) (vs := [.slice _ _ _, .slice _ _ _]) H131 rfl rfl rfl rfl rfl kflaw35b_5 rfl rfl rfl) rfl rfl ?_
       rintro _ w144 H145
       refine ⟨(HS.left (l := [_, _]) (H145.pickT (p := [_, _, _]) (m := [_, _]) [1, 2] rfl (by decide))), fun w146 e148 => ?_⟩
       have H147 := H145.ext e148
       refine tt_op rfl (Yd.op (y_ext rfl rfl rfl)) rfl rfl ?_
       rintro _ _ ⟨rfl, rfl⟩
       refine ⟨(HS.left (l := [_, _]) (H147.pickT (p := [_, _, _]) (m := [_, _]) [1, 2] rfl (by decide))), fun w149 e151 => ?_⟩
       have H150 := H147.ext e151
       refine tt_op rfl (Yd.op (y_asg rfl rfl)) rfl rfl ?_
       rintro _ _ ⟨rfl, rfl⟩
       refine ⟨(HS.left (l := [_, _]) (H150.pickT (p := [_, _, _]) (m := [_, _]) [1, 2] rfl (by decide))), fun w152 e154 => ?_⟩
       have H153 := H150.ext e154
       exact tt_leaf ⟨b124, A24, c25, U26, u27, lz28, rfl, H153, p29, q30, hz31, hy32⟩ ⟨rfl, rfl, trivial⟩ (by repeat (first | exact kp_refl | refine kp_app rfl rfl ?_ | refine kp_cons rfl ?_))
      refine tt_op rfl (Yd.op (y_ext rfl rfl rfl)) rfl rfl ?_
      rintro _ _ ⟨rfl, rfl⟩
      refine ⟨(HS.left (l := [_, _]) (H128.pickT (p := [_, _, _]) (m := [_, _]) [1, 2] rfl (by decide))), fun w155 e157 => ?_⟩
      have H156 := H128.ext e157
      refine tt_op rfl (Yd.op (y_ext rfl rfl rfl)) rfl rfl ?_
      rintro _ _ ⟨rfl, rfl⟩
      refine ⟨(HS.left (l := [_, _]) (H156.pickT (p := [_, _, _]) (m := [_, _]) [1, 2] rfl (by decide))), fun w158 e160 => ?_⟩
      have H159 := H156.ext e160
      refine tt_op rfl (op_st (i := 0) (vs := [.slice _ _ _, .slice _ _ _]) H159 rfl rfl rfl rfl rfl kflaw35b_5 rfl rfl rfl) rfl rfl ?_
      rintro _ w161 H162
      refine ⟨(HS.left (l := [_, _]) (H162.pickT (p := [_, _, _]) (m := [_, _]) [1, 2] rfl (by decide))), fun w163 e165 => ?_⟩
      have H164 := H162.ext e165
      refine tt_op rfl (Yd.op (y_asg rfl rfl)) rfl rfl ?_
      rintro _ _ ⟨rfl, rfl⟩
      refine ⟨(HS.left (l := [_, _]) (H164.pickT (p := [_, _, _]) (m := [_, _]) [1, 2] rfl (by decide))), fun w166 e168 => ?_⟩
      have H167 := H164.ext e168
      exact tt_leaf ⟨b124, A24, c25, U26, u27, lz28, rfl, H167, p29, q30, hz31, hy32⟩ ⟨rfl, rfl, trivial⟩ (by repeat (first | exact kp_refl | refine kp_app rfl rfl ?_ | refine kp_cons rfl ?_))
     refine tt_op rfl (op_alloc H34 rfl kflaw35b_4) rfl rfl ?_
     rintro _ w170 ⟨b169, rfl, H171⟩
     refine ⟨(HS.left (l := [_, _]) (H171.pickT (p := [_, _, _]) (m := [_, _]) [1, 2] rfl (by decide))), fun w172 e174 => ?_⟩
     have H173 := H171.ext e174
     refine tt_op rfl (Yd.op (y_mov rfl rfl)) rfl rfl ?_
     rintro _ _ ⟨rfl, rfl⟩
     refine ⟨(HS.left (l := [_, _]) (H173.pickT (p := [_, _, _]) (m := [_, _]) [1, 2] rfl (by decide))), fun w175 e177 => ?_⟩
     have H176 := H173.ext e177
     refine tt_alt ?_ ?_
     ·skip
      refine tt_op rfl (Yd.op (y_ext rfl rfl rfl)) rfl rfl ?_
      rintro _ _ ⟨rfl, rfl⟩
      refine ⟨(HS.left (l := [_, _]) (H176.pickT (p := [_, _, _]) (m := [_, _]) [1, 2] rfl (by decide))), fun w178 e180 => ?_⟩
      have H179 := H176.ext e180
      refine tt_alt ?_ ?_
      ·skip
       refine tt_op rfl (Yd.op (y_ext rfl rfl rfl)) rfl rfl ?_
       rintro _ _ ⟨rfl, rfl⟩
       refine ⟨(HS.left (l := [_, _]) (H179.pickT (p := [_, _, _]) (m := [_, _]) [1, 2] rfl (by decide))), fun w181 e183 => ?_⟩
       have H182 := H179.ext e183
       refine tt_op rfl (op_st (i := 0) (vs := [.slice _ _ _, .slice _ _ _]) H182 rfl rfl rfl rfl rfl kflaw35b_5 rfl rfl rfl) rfl rfl ?_
       rintro _ w184 H185
       refine ⟨(HS.left (l := [_, _]) (H185.pickT (p := [_, _, _]) (m := [_, _]) [1, 2] rfl (by decide))), fun w186 e188 => ?_⟩
       have H187 := H185.ext e188
       refine tt_op rfl (Yd.op (y_asg rfl rfl)) rfl rfl ?_
       rintro _ _ ⟨rfl, rfl⟩
       refine ⟨(HS.left (l := [_, _]) (H187.pickT (p := [_, _, _]) (m := [_, _]) [1, 2] rfl (by decide))), fun w189 e191 => ?_⟩
       have H190 := H187.ext e191
       exact tt_leaf ⟨b169, A24, c25, U26, u27, lz28, rfl, H190, p29, q30, hz31, hy32⟩ ⟨rfl, rfl, trivial⟩ (by repeat (first | exact kp_refl | refine kp_app rfl rfl ?_ | refine kp_cons rfl ?_))
      refine tt_op rfl (op_st (i := 0) (vs := [.slice _ _ _, .slice _ _ _]) H179 rfl rfl rfl rfl rfl kflaw35b_5 rfl rfl rfl) rfl rfl ?_
      rintro _ w192 H193
      refine ⟨(HS.left (l := [_, _]) (H193.pickT (p := [_, _, _]) (m := [_, _]) [1, 2] rfl (by decide))), fun w194 e196 => ?_⟩
      have H195 := H193.ext e196
      refine tt_op rfl (Yd.op (y_ext rfl rfl rfl)) rfl rfl ?_
      rintro _ _ ⟨rfl, rfl⟩
      refine ⟨(HS.left (l := [_, _]) (H195.pickT (p := [_, _, _]) (m := [_, _]) [1, 2] rfl (by decide))), fun w197 e199 => ?_⟩
      have H198 := H195.ext e199
      refine tt_op rfl (Yd.op (y_asg rfl rfl)) rfl rfl ?_
      rintro _ _ ⟨rfl, rfl⟩
      refine ⟨(HS.left (l := [_, _]) (H198.pickT (p := [_, _, _]) (m := [_, _]) [1, 2] rfl (by decide))), fun w200 e202 => ?_⟩
      have H201 := H198.ext e202
      exact tt_leaf ⟨b169, A24, c25, U26, u27, lz28, rfl, H201, p29, q30, hz31, hy32⟩ ⟨rfl, rfl, trivial⟩ (by repeat (first | exact kp_refl | refine kp_app rfl rfl ?_ | refine kp_cons rfl ?_))
     refine tt_op rfl (Yd.op (y_ext rfl rfl rfl)) rfl rfl ?_
     rintro _ _ ⟨rfl, rfl⟩
     refine ⟨(HS.left (l := [_, _]) (H176.pickT (p := [_, _, _]) (m := [_, _]) [1, 2] rfl (by decide))), fun w203 e205 => ?_⟩
     have H204 := H176.ext e205
     refine tt_op rfl (Yd.op (y_ext rfl rfl rfl)) rfl rfl ?_
     rintro _ _ ⟨rfl, rfl⟩
     refine ⟨(HS.left (l := [_, _]) (H204.pickT (p := [_, _, _]) (m := [_, _]) [1, 2] rfl (by decide))), fun w206 e208 => ?_⟩
     have H207 := H204.ext e208
     refine tt_op rfl (op_st (i := 0) (vs := [.slice _ _ _, .slice _ _ _]) H207 rfl rfl rfl rfl rfl kflaw35b_5 rfl rfl rfl) rfl rfl ?_
     rintro _ w209 H210
     refine ⟨(HS.left (l := [_, _]) (H210.pickT (p := [_, _, _]) (m := [_, _]) [1, 2] rfl (by decide))), fun w211 e213 => ?_⟩
     have H212 := H210.ext e213
     refine tt_op rfl (Yd.op (y_asg rfl rfl)) rfl rfl ?_
     rintro _ _ ⟨rfl, rfl⟩
     refine ⟨(HS.left (l := [_, _]) (H212.pickT (p := [_, _, _]) (m := [_, _]) [1, 2] rfl (by decide))), fun w214 e216 => ?_⟩
     have H215 := H212.ext e216
     exact tt_leaf ⟨b169, A24, c25, U26, u27, lz28, rfl, H215, p29, q30, hz31, hy32⟩ ⟨rfl, rfl, trivial⟩ (by repeat (first | exact kp_refl | refine kp_app rfl rfl ?_ | refine kp_cons rfl ?_))
    refine tt_op rfl (op_alloc HX rfl kflaw35b_4) rfl rfl ?_
    rintro _ w218 ⟨b217, rfl, H219⟩
    refine ⟨(HS.left (l := [_, _]) (H219.pickT (p := [_, _, _]) (m := [_, _]) [1, 2] rfl (by decide))), fun w220 e222 => ?_⟩
    have H221 := H219.ext e222
    refine tt_op rfl (op_call (mdDid_any w [_, _, _] lt DA dc ds UA uc us (acI acl i).p _ hx (by omega) (by omega) hD hU hcc.1 hcc.2.1 (by have := hcc.2.2; rw [List.length_append] at this; omega) (by have := hcc.2.2; rw [List.length_append] at this; omega) H221) rfl kflaw35b_12 ⟨rfl, rfl, trivial⟩) rfl rfl ?_
    rintro _ w224 ⟨A225, c226, U227, u228, lz229, rfl, p230, q231, hz232, hy233, H223⟩
    refine ⟨(HS.left (l := [_, _]) (H223.pickT (p := [_, _, _]) (m := [_, _]) [1, 2] rfl (by decide))), fun w234 e236 => ?_⟩
    have H235 := H223.ext e236
    refine tt_op rfl (Yd.op (y_mov rfl rfl)) rfl rfl ?_
    rintro _ _ ⟨rfl, rfl⟩
    refine ⟨(HS.left (l := [_, _]) (H235.pickT (p := [_, _, _]) (m := [_, _]) [1, 2] rfl (by decide))), fun w237 e239 => ?_⟩
    have H238 := H235.ext e239
    refine tt_alt ?_ ?_
    ·skip
     refine tt_op rfl (Yd.op (y_ext rfl rfl rfl)) rfl rfl ?_
     rintro _ _ ⟨rfl, rfl⟩
     refine ⟨(HS.left (l := [_, _]) (H238.pickT (p := [_, _, _]) (m := [_, _]) [1, 2] rfl (by decide))), fun w240 e242 => ?_⟩
     have H241 := H238.ext e242
     refine tt_alt ?_ ?_
     ·skip
      refine tt_op rfl (Yd.op (y_ext rfl rfl rfl)) rfl rfl ?_
      rintro _ _ ⟨rfl, rfl⟩
      refine ⟨(HS.left (l := [_, _]) (H241.pickT (p := [_, _, _]) (m := [_, _]) [1, 2] rfl (by decide))), fun w243 e245 => ?_⟩
      have H244 := H241.ext e245
      refine tt_op rfl (op_st (i := 0) (vs := [.slice _ _ _, .slice _ _ _]) H244 rfl rfl rfl rfl rfl kflaw35b_5 rfl rfl rfl) rfl rfl ?_
      rintro _ w246 H247
      refine ⟨(HS.left (l := [_, _]) (H247.pickT (p := [_, _, _]) (m := [_, _]) [1, 2] rfl (by decide))), fun w248 e250 => ?_⟩
      have H249 := H247.ext e250
      refine tt_op rfl (Yd.op (y_asg rfl rfl)) rfl rfl ?_
      rintro _ _ ⟨rfl, rfl⟩
      refine ⟨(HS.left (l := [_, _]) (H249.pickT (p := [_, _, _]) (m := [_, _]) [1, 2] rfl (by decide))), fun w251 e253 => ?_⟩
      have H252 := H249.ext e253
      exact tt_leaf ⟨b217, A225, c226, U227, u228, lz229, rfl, H252, p230, q231, hz232, hy233⟩ ⟨rfl, rfl, trivial⟩ (by repeat (first | exact kp_refl | refine kp_app rfl rfl ?_ | refine kp_cons rfl ?_))
     refine tt_op rfl (op_st (i := 0) (vs := [.slice _ _ _, .slice _ _ _]) H241 rfl rfl rfl rfl rfl kflaw35b_5 rfl rfl rfl) rfl rfl ?_
     rintro _ w254 H255
     refine ⟨(HS.left (l := [_, _]) (H255.pickT (p := [_, _, _]) (m := [_, _]) [1, 2] rfl (by decide))), fun w256 e258 => ?_⟩
     have H257 := H255.ext e258
     refine tt_op rfl (Yd.op (y_ext rfl rfl rfl)) rfl rfl ?_
     rintro _ _ ⟨rfl, rfl⟩
     refine ⟨(HS.left (l := [_, _]) (H257.pickT (p := [_, _, _]) (m := [_, _]) [1, 2] rfl (by decide))), fun w259 e261 => ?_⟩
     have H260 := H257.ext e261
     refine tt_op rfl (Yd.op (y_asg rfl rfl)) rfl rfl ?_
     rintro _ _ ⟨rfl, rfl⟩
     refine ⟨(HS.left (l := [_, _]) (H260.pickT (p := [_, _, _]) (m := [_, _]) [1, 2] rfl (by decide))), fun w262 e264 => ?_⟩
     have H263 := H260.ext e264
     exact tt_leaf ⟨b217, A225, c226, U227, u228, lz229, rfl, H263, p230, q231, hz232, hy233⟩ ⟨rfl, rfl, trivial⟩ (by repeat (first | exact kp_refl | refine kp_app rfl rfl ?_ | refine kp_cons rfl ?_))
    refine tt_op rfl (Yd.op (y_ext rfl rfl rfl)) rfl rfl ?_
    rintro _ _ ⟨rfl, rfl⟩
    refine ⟨(HS.left (l := [_, _]) (H238.pickT (p := [_, _, _]) (m := [_, _]) [1, 2] rfl (by decide))), fun w265 e267 => ?_⟩
    have H266 := H238.ext e267
    refine tt_op rfl (Yd.op (y_ext rfl rfl rfl)) rfl rfl ?_
    rintro _ _ ⟨rfl, rfl⟩
    refine ⟨(HS.left (l := [_, _]) (H266.pickT (p := [_, _, _]) (m := [_, _]) [1, 2] rfl (by decide))), fun w268 e270 => ?_⟩
    have H269 := H266.ext e270
    refine tt_op rfl (op_st (i := 0) (vs := [.slice _ _ _, .slice _ _ _]) H269 rfl rfl rfl rfl rfl kflaw35b_5 rfl rfl rfl) rfl rfl ?_
    rintro _ w271 H272
    refine ⟨(HS.left (l := [_, _]) (H272.pickT (p := [_, _, _]) (m := [_, _]) [1, 2] rfl (by decide))), fun w273 e275 => ?_⟩
    have H274 := H272.ext e275
    refine tt_op rfl (Yd.op (y_asg rfl rfl)) rfl rfl ?_
    rintro _ _ ⟨rfl, rfl⟩
    refine ⟨(HS.left (l := [_, _]) (H274.pickT (p := [_, _, _]) (m := [_, _]) [1, 2] rfl (by decide))), fun w276 e278 => ?_⟩
    have H277 := H274.ext e278
    exact tt_leaf ⟨b217, A225, c226, U227, u228, lz229, rfl, H277, p230, q231, hz232, hy233⟩ ⟨rfl, rfl, trivial⟩ (by repeat (first | exact kp_refl | refine kp_app rfl rfl ?_ | refine kp_cons rfl ?_))
   ·skip
    rintro M w280 ⟨b', A2, c2, U2, u2, lt2, rfl, H279, hc2, hu2, hA2, hU2⟩
    refine fn_next ?_
    refine cw_seq ?_
    refine cw_seq ?_
    refine cw_reg ?_
    refine ry (y_mov rfl rfl) rfl rfl ?_
    refine ry (y_mov rfl rfl) rfl rfl ?_
    refine ry (y_mov rfl rfl) rfl rfl ?_
    refine ry (y_iar (i := i) ((hr.below H279.base)) rfl rfl rfl kflaw35b_6 (rfl) (by omega) (rfl) (pq 0 _ rfl)) rfl rfl ?_
    refine ry (y_far ((hr.below H279.base)) rfl rfl kflaw35b_10 rfl (pq 0 _ rfl)) rfl rfl ?_
    refine ry (y_ldra (cs := [_, _, _, _, _, _]) ((hr.below H279.base)) rfl rfl kflaw35b_11 rfl (by decide) (fun j v hv => pq1 j v hv)) rfl rfl ?_
    refine reg_op (op_call (pDid_any w _ b10 ds us bl' (acI acl i).p _ (fun X HX => hx.below HX.base) (by omega) (by omega) hcc.2.2 (H279.pickT (p := [_, _, _]) (m := [_, _, _]) [1, 0, 2] rfl (by decide))) rfl kflaw35b_13 ⟨rfl, rfl, trivial⟩) rfl rfl ?_
    rintro _ w282 ⟨bl283, rfl, H281⟩
    refine ry (y_mov rfl rfl) rfl rfl ?_
    refine ry (yv (congrArg Value.bool (decide_eq_false (fun q => q rfl))) (y_neq rfl rfl rfl)) rfl rfl ?_
    refine reg_nil ?_
    refine fn_next ?_
    refine cw_condf rfl ?_
    refine cw_skip ?_
    refine fn_next ?_
    refine cw_reg ?_
    refine ry (y_ldb (i := 1) (cs := [_, _]) H281 rfl rfl kflaw35b_9 rfl rfl) rfl rfl ?_
    refine reg_op (op_st (i := 2) (vs := [.slice _ _ _, .slice _ _ _]) H281 rfl rfl rfl rfl rfl kflaw35b_5 rfl rfl rfl) rfl rfl ?_
    rintro _ w284 H285
    refine reg_nil ?_
    refine fn_block ?_
    refine fn_next ?_
    refine cw_seq ?_
    refine cw_reg ?_
    refine ry (y_mov rfl rfl) rfl rfl ?_
    refine reg_op (op_call (pLen w _ b10 ((dN ds (acI acl i).p ++ uN us (acI acl i).p).map Pt.pv) (dN ds (acI acl i).p).length bl283 _ (by rw [List.length_map, List.length_append]; omega) (by rw [List.length_map]; exact dNu_len hcc.2.2) H285) rfl kflaw35b_14 ⟨rfl, trivial⟩) rfl rfl ?_
    rintro _ w287 ⟨bl288, rfl, H286⟩
    refine ry (y_mov rfl rfl) rfl rfl ?_
    refine ry (y_ext rfl rfl rfl) rfl rfl ?_
    refine ry (y_ext rfl rfl rfl) rfl rfl ?_
    refine ry (y_asg rfl rfl) rfl rfl ?_
    refine ry (y_asg rfl rfl) rfl rfl ?_
    refine reg_nil ?_
    refine fn_next ?_
    refine cw_seq ?_
    refine cw_reg ?_
    refine ry (y_mov rfl rfl) rfl rfl ?_
    refine ry (y_fa rfl rfl kflaw35b_15 rfl) rfl rfl ?_
    refine ry (y_ld rfl rfl kflaw35b_16 (H286.cell (i := 2) rfl rfl)) rfl rfl ?_
    refine ry (y_len rfl Try.underlying22 rfl) rfl rfl ?_
    refine ry (yv (congrArg Value.bool (decide_eq_false (fun q => q rfl))) (y_neq rfl rfl rfl)) rfl rfl ?_
    refine ry (y_mov rfl rfl) rfl rfl ?_
    refine rgy (y_mov rfl rfl) rfl rfl rfl rfl ?_
    refine rgy (y_fa rfl rfl kflaw35b_17 rfl) rfl rfl rfl rfl ?_
    refine rgy (y_ld rfl rfl kflaw35b_16 (H286.cell (i := 2) rfl rfl)) rfl rfl rfl rfl ?_
    refine rgy (y_len rfl Try.underlying22 rfl) rfl rfl rfl rfl ?_
    refine rgy (yv (congrArg Value.bool (decide_eq_false (fun q => q vlen))) (y_neq rfl rfl rfl)) rfl rfl rfl rfl ?_
    refine ry (y_pick rfl rfl rfl) rfl rfl ?_
    refine reg_nil ?_
    refine fn_next ?_
    refine cw_condf rfl ?_
    refine cw_skip ?_
    refine fn_block ?_
    refine fn_next ?_
    refine cw_reg ?_
    refine ry (y_mov rfl rfl) rfl rfl ?_
    refine ry (y_add rfl rfl rfl (wi (by omega))) rfl rfl ?_
    refine ry (y_asg rfl rfl) rfl rfl ?_
    refine reg_nil ?_
    refine fn_roundJ ⟨i + 1, dN ds (acI acl i).p, uN us (acI acl i).p, A2, c2, U2, u2, bl288, lt2, rfl, (H286.pickT (p := [_, _, _]) (m := [_, _]) [0, 2] rfl (by decide)), by omega, hA2, hU2, ⟨hc2, hu2, dNu_len hcc.2.2⟩, fun x hx' => (mem_dN hx').elim (hS x) (fun e => by rw [e]; exact ⟨hx, hs2⟩), rfl⟩ ⟨rfl, trivial⟩ (by omega) (by repeat (first | exact kp_refl | refine kp_app rfl rfl ?_ | refine kp_cons rfl ?_)) rfl
  ·skip
   refine cw_seq ?_
   refine cw_reg ?_
   refine ry (y_eql rfl rfl rfl) rfl rfl ?_
   refine ry (y_asg rfl rfl) rfl rfl ?_
   refine reg_nil ?_
   refine fn_next ?_
   refine cw_condd rfl (fun h289 => ?_) (fun h289 => ?_)
   ·skip
    refine cw_seq ?_
    refine cw_reg ?_
    refine ry (y_mov rfl rfl) rfl rfl ?_
    refine reg_op (op_call (pBack_any w _ b10 ds us bl' _ hS.pv hcc.2.2 H18) rfl kflaw35b_18 ⟨rfl, trivial⟩) rfl rfl ?_
    rintro _ w291 ⟨A292, c293, B294, e295, bl296, rfl, H290⟩
    refine ry (y_mov rfl rfl) rfl rfl ?_
    refine ry (y_ext rfl rfl rfl) rfl rfl ?_
    refine ry (y_ext rfl rfl rfl) rfl rfl ?_
    refine reg_op (op_alloc H290 rfl kflaw35b_19) rfl rfl ?_
    rintro _ w298 ⟨b297, rfl, H299⟩
    refine reg_op (op_st (i := 0) (vs := [.int _ _, .int _ _, .int _ _, .int _ _, .slice _ _ _, .slice _ _ _]) H299 rfl rfl rfl rfl rfl kflaw35b_20 rfl rfl rfl) rfl rfl ?_
    rintro _ w300 H301
    refine ry (y_asg rfl rfl) rfl rfl ?_
    refine reg_nil ?_
    refine fn_next ?_
    refine cw_seq ?_
    refine cw_reg ?_
    refine ry (y_ldb (i := 4) (cs := [_, _]) H301 rfl rfl kflaw35b_9 rfl rfl) rfl rfl ?_
    refine reg_op (op_call (mdBack_any w [_, _, _, _, _] lt DA dc ds UA uc us _ (fun x hx' => (hS x (List.mem_append_left _ hx')).1) hD hU hcc.1 hcc.2.1 (by have := hcc.2.2; rw [List.length_append] at this; omega) (by have := hcc.2.2; rw [List.length_append] at this; omega) H301) rfl kflaw35b_21 ⟨rfl, trivial⟩) rfl rfl ?_
    rintro _ w303 ⟨A304, c305, U306, u307, E308, e309, F310, f311, lz312, rfl, p313, q314, hz315, hy316, ha317, hb318, H302⟩
    refine ry (y_mov rfl rfl) rfl rfl ?_
    refine ry (y_ext rfl rfl rfl) rfl rfl ?_
    refine ry (y_ext rfl rfl rfl) rfl rfl ?_
    refine ry (y_ext rfl rfl rfl) rfl rfl ?_
    refine reg_op (op_alloc H302 rfl kflaw35b_4) rfl rfl ?_
    rintro _ w320 ⟨b319, rfl, H321⟩
    refine reg_op (op_alloc H321 rfl kflaw35b_19) rfl rfl ?_
    rintro _ w323 ⟨b322, rfl, H324⟩
    refine reg_op (op_st (i := 1) (vs := [.slice _ _ _, .slice _ _ _]) H324 rfl rfl rfl rfl rfl kflaw35b_5 rfl rfl rfl) rfl rfl ?_
    rintro _ w325 H326
    refine reg_op (op_st (i := 0) (vs := [.int _ _, .int _ _, .int _ _, .int _ _, .slice _ _ _, .slice _ _ _]) H326 rfl rfl rfl rfl rfl kflaw35b_20 rfl rfl rfl) rfl rfl ?_
    rintro _ w327 H328
    refine ry (y_asg rfl rfl) rfl rfl ?_
    refine reg_nil ?_
    refine fn_next ?_
    refine cw_seq ?_
    refine cw_seq ?_
    refine cw_reg ?_
    refine ry (y_ldb (i := 2) (cs := [_, _, _, _, _, _]) H328 rfl rfl kflaw35b_11 rfl rfl) rfl rfl ?_
    refine ry (y_ldb (i := 0) (cs := [_, _, _, _, _, _]) H328 rfl rfl kflaw35b_11 rfl rfl) rfl rfl ?_
    refine reg_op (op_call (refPSame (bV ds).x0 (bV ds).y0 (bV ds).x1 (bV ds).y1 (bV ds).o (bV ds).q _ _ _ _ _ _ _ _ _ _ _ (H328.rd (i := 3) rfl) (H328.rd (i := 4) rfl) (ha317 _ (H328.tail.tail.tail.tail.tail.tail.tail)) (hb318 _ (H328.tail.tail.tail.tail.tail.tail.tail)) rfl rfl hS.bV.1 hS.bV.2) rfl kflaw35b_22 ⟨rfl, rfl, trivial⟩) rfl rfl ?_
    rintro _ w330 ⟨rfl, e329⟩
    have H331 := H328.ext e329
    refine ry (y_not rfl rfl) rfl rfl ?_
    refine ry (y_mov rfl rfl) rfl rfl ?_
    refine rgy (y_mov rfl rfl) rfl rfl rfl rfl ?_
    refine rgy (y_mov rfl rfl) rfl rfl rfl rfl ?_
    refine rgy (yv (congrArg Value.bool (decide_eq_false (fun q => q rfl))) (y_neq rfl rfl rfl)) rfl rfl rfl rfl ?_
    refine ry (y_pick rfl rfl rfl) rfl rfl ?_
    refine reg_nil ?_
    refine fn_next ?_
    refine cw_condf rfl ?_
    refine cw_skip ?_
    refine fn_next ?_
    refine cw_reg ?_
    refine ry (y_ldb (i := 1) (cs := [_, _]) H331 rfl rfl kflaw35b_9 rfl rfl) rfl rfl ?_
    refine reg_op (op_st (i := 6) (vs := [.slice _ _ _, .slice _ _ _]) H331 rfl rfl rfl rfl rfl kflaw35b_5 rfl rfl rfl) rfl rfl ?_
    rintro _ w332 H333
    refine reg_nil ?_
    refine fn_block ?_
    refine fn_next ?_
    refine cw_seq ?_
    refine cw_reg ?_
    refine ry (y_mov rfl rfl) rfl rfl ?_
    refine reg_op (op_call (pLen w _ b10 ((bD ds ++ bU ds us).map Pt.pv) (bD ds).length bl296 _ (by rw [List.length_map, List.length_append]; omega) (by rw [List.length_map]; exact (by rw [bDU]; exact hcc.2.2)) (H333.pickT (p := [_, _, _, _, _, _, _]) (m := [_, _, _, _, _, _, _]) [5, 0, 1, 2, 3, 4, 6] rfl (by decide))) rfl kflaw35b_14 ⟨rfl, trivial⟩) rfl rfl ?_
    rintro _ w335 ⟨bl336, rfl, H334⟩
    refine ry (y_mov rfl rfl) rfl rfl ?_
    refine ry (y_ext rfl rfl rfl) rfl rfl ?_
    refine ry (y_ext rfl rfl rfl) rfl rfl ?_
    refine ry (y_asg rfl rfl) rfl rfl ?_
    refine ry (y_asg rfl rfl) rfl rfl ?_
    refine reg_nil ?_
    refine fn_next ?_
    refine cw_seq ?_
    refine cw_reg ?_
    refine ry (y_mov rfl rfl) rfl rfl ?_
    refine ry (y_fa rfl rfl kflaw35b_15 rfl) rfl rfl ?_
    refine ry (y_ld rfl rfl kflaw35b_16 (H334.cell (i := 6) rfl rfl)) rfl rfl ?_
    refine ry (y_len rfl Try.underlying22 rfl) rfl rfl ?_
    refine ry (yv (congrArg Value.bool (decide_eq_false (fun q => q rfl))) (y_neq rfl rfl rfl)) rfl rfl ?_
    refine ry (y_mov rfl rfl) rfl rfl ?_
    refine rgy (y_mov rfl rfl) rfl rfl rfl rfl ?_
    refine rgy (y_fa rfl rfl kflaw35b_17 rfl) rfl rfl rfl rfl ?_
    refine rgy (y_ld rfl rfl kflaw35b_16 (H334.cell (i := 6) rfl rfl)) rfl rfl rfl rfl ?_
    refine rgy (y_len rfl Try.underlying22 rfl) rfl rfl rfl rfl ?_
    refine rgy (yv (congrArg Value.bool (decide_eq_false (fun q => q vlen))) (y_neq rfl rfl rfl)) rfl rfl rfl rfl ?_
    refine ry (y_pick rfl rfl rfl) rfl rfl ?_
    refine reg_nil ?_
    refine fn_next ?_
    refine cw_condf rfl ?_
    refine cw_skip ?_
    refine fn_block ?_
    refine fn_next ?_
    refine cw_reg ?_
    refine ry (y_mov rfl rfl) rfl rfl ?_
    refine ry (y_add rfl rfl rfl (wi (by omega))) rfl rfl ?_
    refine ry (y_asg rfl rfl) rfl rfl ?_
    refine reg_nil ?_
    refine fn_roundJ ⟨i + 1, bD ds, bU ds us, A304, c305, U306, u307, bl336, lz312, rfl, (H334.pickT (p := [_, _, _, _, _, _, _]) (m := [_, _]) [0, 6] rfl (by decide)), by omega, hz315, hy316, ⟨p313, q314, (by rw [bDU]; exact hcc.2.2)⟩, (by rw [bDU]; exact hS), rfl⟩ ⟨rfl, trivial⟩ (by omega) (by repeat (first | exact kp_refl | refine kp_app rfl rfl ?_ | refine kp_cons rfl ?_)) rfl
   ·skip
    refine cw_seq ?_
    refine cw_reg ?_
    refine ry (y_eql rfl rfl rfl) rfl rfl ?_
    refine ry (y_asg rfl rfl) rfl rfl ?_
    refine reg_nil ?_
    refine fn_next ?_
    refine cw_condd rfl (fun h337 => ?_) (fun h337 => ?_)
    ·skip
     refine cw_seq ?_
     refine cw_reg ?_
     refine ry (y_mov rfl rfl) rfl rfl ?_
     refine reg_op (op_call (pAgain_any w _ b10 ds us bl' _ hS.pv hcc.2.2 H18) rfl kflaw35b_23 ⟨rfl, trivial⟩) rfl rfl ?_
     rintro _ w339 ⟨A340, c341, B342, e343, bl344, rfl, H338⟩
     refine ry (y_mov rfl rfl) rfl rfl ?_
     refine ry (y_ext rfl rfl rfl) rfl rfl ?_
     refine ry (y_ext rfl rfl rfl) rfl rfl ?_
     refine reg_op (op_alloc H338 rfl kflaw35b_19) rfl rfl ?_
     rintro _ w346 ⟨b345, rfl, H347⟩
     refine reg_op (op_st (i := 0) (vs := [.int _ _, .int _ _, .int _ _, .int _ _, .slice _ _ _, .slice _ _ _]) H347 rfl rfl rfl rfl rfl kflaw35b_20 rfl rfl rfl) rfl rfl ?_
     rintro _ w348 H349
     refine ry (y_asg rfl rfl) rfl rfl ?_
     refine reg_nil ?_
     refine fn_next ?_
     refine cw_seq ?_
     refine cw_reg ?_
     refine ry (y_ldb (i := 4) (cs := [_, _]) H349 rfl rfl kflaw35b_9 rfl rfl) rfl rfl ?_
     refine reg_op (op_call (mdAgain_any w [_, _, _, _, _] lt DA dc ds UA uc us _ (fun x hx' => (hS x (List.mem_append_right _ hx')).1) hD hU hcc.1 hcc.2.1 (by have := hcc.2.2; rw [List.length_append] at this; omega) (by have := hcc.2.2; rw [List.length_append] at this; omega) H349) rfl kflaw35b_24 ⟨rfl, trivial⟩) rfl rfl ?_
     rintro _ w351 ⟨A352, c353, U354, u355, E356, e357, F358, f359, lz360, rfl, p361, q362, hz363, hy364, ha365, hb366, H350⟩
     refine ry (y_mov rfl rfl) rfl rfl ?_
     refine ry (y_ext rfl rfl rfl) rfl rfl ?_
     refine ry (y_ext rfl rfl rfl) rfl rfl ?_
     refine ry (y_ext rfl rfl rfl) rfl rfl ?_
     refine reg_op (op_alloc H350 rfl kflaw35b_4) rfl rfl ?_
     rintro _ w368 ⟨b367, rfl, H369⟩
     refine reg_op (op_alloc H369 rfl kflaw35b_19) rfl rfl ?_
     rintro _ w371 ⟨b370, rfl, H372⟩
     refine reg_op (op_st (i := 1) (vs := [.slice _ _ _, .slice _ _ _]) H372 rfl rfl rfl rfl rfl kflaw35b_5 rfl rfl rfl) rfl rfl ?_
     rintro _ w373 H374
     refine reg_op (op_st (i := 0) (vs := [.int _ _, .int _ _, .int _ _, .int _ _, .slice _ _ _, .slice _ _ _]) H374 rfl rfl rfl rfl rfl kflaw35b_20 rfl rfl rfl) rfl rfl ?_
     rintro _ w375 H376
     refine ry (y_asg rfl rfl) rfl rfl ?_
     refine reg_nil ?_
     refine fn_next ?_
     refine cw_seq ?_
     refine cw_seq ?_
     refine cw_reg ?_
     refine ry (y_ldb (i := 2) (cs := [_, _, _, _, _, _]) H376 rfl rfl kflaw35b_11 rfl rfl) rfl rfl ?_
     refine ry (y_ldb (i := 0) (cs := [_, _, _, _, _, _]) H376 rfl rfl kflaw35b_11 rfl rfl) rfl rfl ?_
     refine reg_op (op_call (refPSame (aV us).x0 (aV us).y0 (aV us).x1 (aV us).y1 (aV us).o (aV us).q _ _ _ _ _ _ _ _ _ _ _ (H376.rd (i := 3) rfl) (H376.rd (i := 4) rfl) (ha365 _ (H376.tail.tail.tail.tail.tail.tail.tail)) (hb366 _ (H376.tail.tail.tail.tail.tail.tail.tail)) rfl rfl hS.aV.1 hS.aV.2) rfl kflaw35b_22 ⟨rfl, rfl, trivial⟩) rfl rfl ?_
     rintro _ w378 ⟨rfl, e377⟩
     have H379 := H376.ext e377
     refine ry (y_not rfl rfl) rfl rfl ?_
     refine ry (y_mov rfl rfl) rfl rfl ?_
     refine rgy (y_mov rfl rfl) rfl rfl rfl rfl ?_
     refine rgy (y_mov rfl rfl) rfl rfl rfl rfl ?_
     refine rgy (yv (congrArg Value.bool (decide_eq_false (fun q => q rfl))) (y_neq rfl rfl rfl)) rfl rfl rfl rfl ?_
     refine ry (y_pick rfl rfl rfl) rfl rfl ?_
     refine reg_nil ?_
     refine fn_next ?_
     refine cw_condf rfl ?_
     refine cw_skip ?_
     refine fn_next ?_
     refine cw_reg ?_
     refine ry (y_ldb (i := 1) (cs := [_, _]) H379 rfl rfl kflaw35b_9 rfl rfl) rfl rfl ?_
     refine reg_op (op_st (i := 6) (vs := [.slice _ _ _, .slice _ _ _]) H379 rfl rfl rfl rfl rfl kflaw35b_5 rfl rfl rfl) rfl rfl ?_
     rintro _ w380 H381
     refine reg_nil ?_
     refine fn_block ?_
     refine fn_next ?_
     refine cw_seq ?_
     refine cw_reg ?_
     refine ry (y_mov rfl rfl) rfl rfl ?_
     refine reg_op (op_call (pLen w _ b10 ((aD ds us ++ us.drop 1).map Pt.pv) (aD ds us).length bl344 _ (by rw [List.length_map, List.length_append]; omega) (by rw [List.length_map]; exact (by rw [aDU]; exact hcc.2.2)) (H381.pickT (p := [_, _, _, _, _, _, _]) (m := [_, _, _, _, _, _, _]) [5, 0, 1, 2, 3, 4, 6] rfl (by decide))) rfl kflaw35b_14 ⟨rfl, trivial⟩) rfl rfl ?_
     rintro _ w383 ⟨bl384, rfl, H382⟩
     refine ry (y_mov rfl rfl) rfl rfl ?_
     refine ry (y_ext rfl rfl rfl) rfl rfl ?_
     refine ry (y_ext rfl rfl rfl) rfl rfl ?_
     refine ry (y_asg rfl rfl) rfl rfl ?_
     refine ry (y_asg rfl rfl) rfl rfl ?_
     refine reg_nil ?_
     refine fn_next ?_
     refine cw_seq ?_
     refine cw_reg ?_
     refine ry (y_mov rfl rfl) rfl rfl ?_
     refine ry (y_fa rfl rfl kflaw35b_15 rfl) rfl rfl ?_
     refine ry (y_ld rfl rfl kflaw35b_16 (H382.cell (i := 6) rfl rfl)) rfl rfl ?_
     refine ry (y_len rfl Try.underlying22 rfl) rfl rfl ?_
     refine ry (yv (congrArg Value.bool (decide_eq_false (fun q => q rfl))) (y_neq rfl rfl rfl)) rfl rfl ?_
     refine ry (y_mov rfl rfl) rfl rfl ?_
     refine rgy (y_mov rfl rfl) rfl rfl rfl rfl ?_
     refine rgy (y_fa rfl rfl kflaw35b_17 rfl) rfl rfl rfl rfl ?_
     refine rgy (y_ld rfl rfl kflaw35b_16 (H382.cell (i := 6) rfl rfl)) rfl rfl rfl rfl ?_
     refine rgy (y_len rfl Try.underlying22 rfl) rfl rfl rfl rfl ?_
     refine rgy (yv (congrArg Value.bool (decide_eq_false (fun q => q vlen))) (y_neq rfl rfl rfl)) rfl rfl rfl rfl ?_
     refine ry (y_pick rfl rfl rfl) rfl rfl ?_
     refine reg_nil ?_
     refine fn_next ?_
     refine cw_condf rfl ?_
     refine cw_skip ?_
     refine fn_block ?_
     refine fn_next ?_
     refine cw_reg ?_
     refine ry (y_mov rfl rfl) rfl rfl ?_
     refine ry (y_add rfl rfl rfl (wi (by omega))) rfl rfl ?_
     refine ry (y_asg rfl rfl) rfl rfl ?_
     refine reg_nil ?_
     refine fn_roundJ ⟨i + 1, aD ds us, us.drop 1, A352, c353, U354, u355, bl384, lz360, rfl, (H382.pickT (p := [_, _, _, _, _, _, _]) (m := [_, _]) [0, 6] rfl (by decide)), by omega, hz363, hy364, ⟨p361, q362, (by rw [aDU]; exact hcc.2.2)⟩, (by rw [aDU]; exact hS), rfl⟩ ⟨rfl, trivial⟩ (by omega) (by repeat (first | exact kp_refl | refine kp_app rfl rfl ?_ | refine kp_cons rfl ?_)) rfl
    ·skip
     refine cw_seq ?_
     refine cw_reg ?_
     refine ry (y_eql rfl rfl rfl) rfl rfl ?_
     refine ry (y_asg rfl rfl) rfl rfl ?_
     refine reg_nil ?_
     refine fn_next ?_
     refine cw_condd rfl (fun h385 => ?_) (fun h385 => ?_)
     ·skip
      refine cw_seq ?_
      refine cw_reg ?_
      refine ry (y_mov rfl rfl) rfl rfl ?_
      refine reg_op (op_call (pClear w _ b10 _ _ bl' _ H18) rfl kflaw35b_25 ⟨rfl, trivial⟩) rfl rfl ?_
      rintro _ w387 ⟨bl388, rfl, H386⟩
      refine reg_nil ?_
      refine fn_next ?_
      refine cw_reg ?_
      refine ry (y_build (places := [(0, 1), (1, 1)]) (parts := []) (vs := []) (cs := [.slice _ _ _, .slice _ _ _]) rfl Try.underlying41 (by kernel_rfl) kflaw35b_4 rfl trivial rfl) rfl rfl ?_
      refine reg_op (op_st (i := 1) (vs := [.slice _ _ _, .slice _ _ _]) H386 rfl rfl rfl rfl rfl kflaw35b_5 rfl rfl rfl) rfl rfl ?_
      rintro _ w389 H390
      refine reg_nil ?_
      refine fn_block ?_
      refine fn_next ?_
      refine cw_seq ?_
      refine cw_reg ?_
      refine ry (y_mov rfl rfl) rfl rfl ?_
      refine reg_op (op_call (pLen w _ b10 [] 0 bl388 _ (by decide) (by decide) H390) rfl kflaw35b_14 ⟨rfl, trivial⟩) rfl rfl ?_
      rintro _ w392 ⟨bl393, rfl, H391⟩
      refine ry (y_mov rfl rfl) rfl rfl ?_
      refine ry (y_ext rfl rfl rfl) rfl rfl ?_
      refine ry (y_ext rfl rfl rfl) rfl rfl ?_
      refine ry (y_asg rfl rfl) rfl rfl ?_
      refine ry (y_asg rfl rfl) rfl rfl ?_
      refine reg_nil ?_
      refine fn_next ?_
      refine cw_seq ?_
      refine cw_reg ?_
      refine ry (y_mov rfl rfl) rfl rfl ?_
      refine ry (y_fa rfl rfl kflaw35b_15 rfl) rfl rfl ?_
      refine ry (y_ld rfl rfl kflaw35b_16 (H391.cell (i := 1) rfl rfl)) rfl rfl ?_
      refine ry (y_len rfl Try.underlying22 rfl) rfl rfl ?_
      refine ry (yv (congrArg Value.bool (decide_eq_false (fun q => q rfl))) (y_neq rfl rfl rfl)) rfl rfl ?_
      refine ry (y_mov rfl rfl) rfl rfl ?_
      refine rgy (y_mov rfl rfl) rfl rfl rfl rfl ?_
      refine rgy (y_fa rfl rfl kflaw35b_17 rfl) rfl rfl rfl rfl ?_
      refine rgy (y_ld rfl rfl kflaw35b_16 (H391.cell (i := 1) rfl rfl)) rfl rfl rfl rfl ?_
      refine rgy (y_len rfl Try.underlying22 rfl) rfl rfl rfl rfl ?_
      refine rgy (yv (congrArg Value.bool (decide_eq_false (fun q => q rfl))) (y_neq rfl rfl rfl)) rfl rfl rfl rfl ?_
      refine ry (y_pick rfl rfl rfl) rfl rfl ?_
      refine reg_nil ?_
      refine fn_next ?_
      refine cw_condf rfl ?_
      refine cw_skip ?_
      refine fn_block ?_
      refine fn_next ?_
      refine cw_reg ?_
      refine ry (y_mov rfl rfl) rfl rfl ?_
      refine ry (y_add rfl rfl rfl (wi (by omega))) rfl rfl ?_
      refine ry (y_asg rfl rfl) rfl rfl ?_
      refine reg_nil ?_
      refine fn_roundJ ⟨i + 1, [], [], none, 0, none, 0, bl393, lt, rfl, H391, by omega, fun X _ j u hu => by simp [ptCells] at hu, fun X _ j u hu => by simp [ptCells] at hu, ⟨Nat.le_refl _, Nat.le_refl _, Nat.zero_le _⟩, SmP_nil, rfl⟩ ⟨rfl, trivial⟩ (by omega) (by repeat (first | exact kp_refl | refine kp_app rfl rfl ?_ | refine kp_cons rfl ?_)) rfl
     ·skip
      refine cw_skip ?_
      refine fn_block ?_
      refine fn_next ?_
      refine cw_seq ?_
      refine cw_reg ?_
      refine ry (y_mov rfl rfl) rfl rfl ?_
      refine reg_op (op_call (pLen w _ b10 ((ds ++ us).map Pt.pv) (ds).length bl' _ (by rw [List.length_map, List.length_append]; omega) (by rw [List.length_map]; exact hcc.2.2) H18) rfl kflaw35b_14 ⟨rfl, trivial⟩) rfl rfl ?_
      rintro _ w395 ⟨bl396, rfl, H394⟩
      refine ry (y_mov rfl rfl) rfl rfl ?_
      refine ry (y_ext rfl rfl rfl) rfl rfl ?_
      refine ry (y_ext rfl rfl rfl) rfl rfl ?_
      refine ry (y_asg rfl rfl) rfl rfl ?_
      refine ry (y_asg rfl rfl) rfl rfl ?_
      refine reg_nil ?_
      refine fn_next ?_
      refine cw_seq ?_
      refine cw_reg ?_
      refine ry (y_mov rfl rfl) rfl rfl ?_
      refine ry (y_fa rfl rfl kflaw35b_15 rfl) rfl rfl ?_
      refine ry (y_ld rfl rfl kflaw35b_16 (H394.cell (i := 1) rfl rfl)) rfl rfl ?_
      refine ry (y_len rfl Try.underlying22 rfl) rfl rfl ?_
      refine ry (yv (congrArg Value.bool (decide_eq_false (fun q => q rfl))) (y_neq rfl rfl rfl)) rfl rfl ?_
      refine ry (y_mov rfl rfl) rfl rfl ?_
      refine rgy (y_mov rfl rfl) rfl rfl rfl rfl ?_
      refine rgy (y_fa rfl rfl kflaw35b_17 rfl) rfl rfl rfl rfl ?_
      refine rgy (y_ld rfl rfl kflaw35b_16 (H394.cell (i := 1) rfl rfl)) rfl rfl rfl rfl ?_
      refine rgy (y_len rfl Try.underlying22 rfl) rfl rfl rfl rfl ?_
      refine rgy (yv (congrArg Value.bool (decide_eq_false (fun q => q vlen))) (y_neq rfl rfl rfl)) rfl rfl rfl rfl ?_
      refine ry (y_pick rfl rfl rfl) rfl rfl ?_
      refine reg_nil ?_
      refine fn_next ?_
      refine cw_condf rfl ?_
      refine cw_skip ?_
      refine fn_block ?_
      refine fn_next ?_
      refine cw_reg ?_
      refine ry (y_mov rfl rfl) rfl rfl ?_
      refine ry (y_add rfl rfl rfl (wi (by omega))) rfl rfl ?_
      refine ry (y_asg rfl rfl) rfl rfl ?_
      refine reg_nil ?_
      refine fn_roundJ ⟨i + 1, ds, us, DA, dc, UA, uc, bl396, lt, rfl, H394, by omega, hD, hU, hcc, hS, rfl⟩ ⟨rfl, trivial⟩ (by omega) (by repeat (first | exact kp_refl | refine kp_app rfl rfl ?_ | refine kp_cons rfl ?_)) rfl
 ·skip
  obtain rfl : i = n := by omega
  refine cw_exit ?_
  refine fn_then_exit (fn_then_exit (fn_block_exit ?_))
  refine fn_next ?_
  refine cw_seq ?_
  refine cw_reg ?_
  refine ry (y_asg rfl rfl) rfl rfl ?_
  refine reg_nil ?_
  refine fn_next ?_
  refine cw_ret ?_
  refine fn_ret1 rfl rfl ?_
  exact ⟨rfl, H18.base⟩

theorem pastPlays_law (acl : List Ac) (A0 : Option Addr) (n0 c0 : Nat) (W : World) (hacl : Rd W A0 (acCells acl)) (lacl : acl.length = n0) (le0 : n0 ≤ c0) (mx0 : c0 ≤ maxLen) (wacl : ∀ x ∈ acl, x.p.ok W) :
    Calls Try.prog 4 #[.slice A0 n0 c0] W fun e w' => e = .returned (.bool true) ∧ Below W.heap.size W w' := by
  by_cases hok : n0 ≤ 200 ∧ ∀ x ∈ acl, x.p.o.n ≤ 300 ∧ x.p.q.n ≤ 300
  · exact lawOf (pastPlays_ok A0 n0 c0 acl W hacl lacl hok wacl)
  · exact lawOf (pastPlays_big A0 n0 c0 acl W hacl lacl hok)

end Go.Proofs.Ytgkkbeomhkggjaa
