/- Layer 35: a patch turned; the past as memory of one's own. -/
import Derived.Test.YtgkkbeomhkggjaaPat2
import Derived.Test.YtgkkbeomhkggjaaK14
set_option linter.unusedVariables false
set_option linter.unusedSimpArgs false
namespace Go.Proofs.Ytgkkbeomhkggjaa
open Go Go.RowKit
theorem kfpast0_1 : (Try.prog.info? 2).map (fun i => (i.size, i.zero.map Value.cells)) = some (1, some (List.toArray [(.int .i64 0)])) := by kernel_rfl
theorem kfpast0_2 : (Try.prog.info? 2).map (fun i => (i.zero.map (·.cells.toList), i.size, i.bytes)) = some (some [(.int .i64 0)], 1, 8) := by kernel_rfl
theorem kfpast0_3 : (Try.prog.info? 30).bind (fun i => i.zero.map Value.cells) = some (List.toArray [(.int .i64 0), (.int .i64 0), (.int .i64 0), (.int .i64 0), (.slice none 0 0), (.slice none 0 0)]) := by kernel_rfl
theorem kfpast0_4 : fldB Try.prog 30 0 0 = true := by kernel_rfl
theorem kfpast0_5 : aggB Try.prog 27 4 = true := by kernel_rfl
theorem kfpast0_6 : fldB Try.prog 30 2 5 = true := by kernel_rfl
theorem kfpast0_7 : oneB Try.prog 28 = true := by kernel_rfl
theorem kfpast0_8 : fldB Try.prog 30 1 4 = true := by kernel_rfl
theorem kfpast0_9 : callB Try.prog 65 = true := by kernel_rfl
theorem kfpast0_10 : szB Try.prog 30 6 = true := by kernel_rfl
theorem kfpast0_11 : aggB Try.prog 30 6 = true := by kernel_rfl
theorem kfpast0_12 : callB Try.prog 38 = true := by kernel_rfl
theorem kfpast0_13 : elB Try.prog 22 6 = true := by kernel_rfl
theorem kfpast0_14 : (Try.prog.info? 30).map (fun i => (i.zero.map (·.cells.toList), i.size, i.bytes)) = some (some [(.int .i64 0), (.int .i64 0), (.int .i64 0), (.int .i64 0), (.slice none 0 0), (.slice none 0 0)], 6, 80) := by kernel_rfl
/-- a patch's values -/
structure Pv where
  x0 : Int
  y0 : Int
  x1 : Int
  y1 : Int
  o : List Int
  q : List Int
def Pt.pv (p : Pt) : Pv := ⟨p.x0, p.y0, p.x1, p.y1, p.o.zs, p.q.zs⟩
def Pv.back (v : Pv) : Pv := ⟨v.x0, v.y0, v.x1, v.y1, v.q, v.o⟩
structure Pv.ok (v : Pv) : Prop where
  b0 : I6 v.x0
  b1 : I6 v.y0
  b2 : I6 v.x1
  b3 : I6 v.y1
  wo : ∀ z ∈ v.o, I6 z
  wq : ∀ z ∈ v.q, I6 z
  mo : v.o.length ≤ 16777216
  mq : v.q.length ≤ 16777216
theorem Pt.ok.pv {w : World} {p : Pt} (h : p.ok w) (mo : p.o.n ≤ 16777216) (mq : p.q.n ≤ 16777216) : p.pv.ok := ⟨h.b0, h.b1, h.b2, h.b3, h.ho.wf, h.hq.wf, by show p.o.zs.length ≤ _; rw [h.ho.len]; exact mo, by show p.q.zs.length ≤ _; rw [h.hq.len]; exact mq⟩
def Pt.obs (p : Pt) : List Ob := [.row p.o.A p.o.n p.o.c (vi .i64 p.o.zs) 2 1, .row p.q.A p.q.n p.q.c (vi .i64 p.q.zs) 2 1]
theorem HS.sub {w0 w : World} {l m : List Ob} (h : HS w0 w l) (s : m.Sublist l) : HS w0 w m := ⟨h.base, fun o ho => h.own o (s.subset ho), h.apart.sublist s⟩
theorem obs_sub {α : Type} {f : α → List Ob} {xs ys : List α} (s : ys.Sublist xs) : (obs f ys).Sublist (obs f xs) := by
  unfold obs
  induction s with
  | slnil => exact List.Sublist.refl _
  | cons a _ ih => rw [List.flatMap_cons]; exact ih.trans (List.sublist_append_right _ _)
  | cons_cons a _ ih => rw [List.flatMap_cons, List.flatMap_cons]; exact (List.Sublist.refl _).append ih
theorem HS.subA {α : Type} {f : α → List Ob} {w0 w : World} {l : List Ob} {xs ys : List α} (h : HS w0 w (obA f xs :: l)) (s : ys.Sublist xs) : HS w0 w (obA f ys :: l) :=
  HS.pack (h.unpack.sub ((obs_sub s).append (List.Sublist.refl _)))
/-- rows of one's own make a patch that is well kept -/
theorem HS.ptok {w0 w : World} {l : List Ob} {p : Pt} (h : HS w0 w (.row p.o.A p.o.n p.o.c (vi .i64 p.o.zs) 2 1 :: .row p.q.A p.q.n p.q.c (vi .i64 p.q.zs) 2 1 :: l)) (hv : p.pv.ok) : p.ok w := by
  have h0 := h.len (i := 0) rfl
  have h1 := h.len (i := 1) rfl
  rw [vi_len] at h0 h1
  exact ⟨hv.b0, hv.b1, hv.b2, hv.b3, ⟨h.rd (i := 0) rfl, by omega, h0.2.1, h0.2.2, hv.wo⟩, ⟨h.rd (i := 1) rfl, by omega, h1.2.1, h1.2.2, hv.wq⟩⟩
theorem HS.ptokA {w0 w : World} {l : List Ob} {ps : List Pt} {p : Pt} (h : HS w0 w (obA Pt.obs ps :: l)) (hp : p ∈ ps) (hv : p.pv.ok) : p.ok w := HS.ptok (l := []) (h.memA hp) hv
theorem HS.ptn {w0 w : World} {l : List Ob} {p : Pt} (h : HS w0 w (.row p.o.A p.o.n p.o.c (vi .i64 p.o.zs) 2 1 :: .row p.q.A p.q.n p.q.c (vi .i64 p.q.zs) 2 1 :: l)) : p.o.zs.length = p.o.n ∧ p.q.zs.length = p.q.n := by
  have h0 := h.len (i := 0) rfl
  have h1 := h.len (i := 1) rfl
  rw [vi_len] at h0 h1
  exact ⟨by omega, by omega⟩
def pBase (b : Nat) (A : Option Addr) (cap : Nat) (es : List Pt) (d : Nat) : List Ob := [.blk b [.slice A es.length cap, .int .i64 (d : Int)] 79, .row A es.length cap (ptCells es) 30 6, obA Pt.obs es]
def pAb (b : Nat) (vs : List Pv) (d : Nat) (bl : Nat → Prop) : Ab where
  ok B w := ∃ A cap es, es.map Pt.pv = vs ∧ (Ab.of (pBase b A cap es d)).ok B w ∧ (Ab.of (pBase b A cap es d)).has = bl
  has := bl
  lt B w h k hk := by
    obtain ⟨A, cap, es, _, h1, rfl⟩ := h
    exact Ab.lt _ B w h1 k hk
  keep B w w' row h hg hne := by
    obtain ⟨A, cap, es, h1, h3, rfl⟩ := h
    exact ⟨A, cap, es, h1, Ab.keep _ B w w' row h3 hg hne, rfl⟩
  mono B B' w h hb := by
    obtain ⟨A, cap, es, h1, h3, rfl⟩ := h
    exact ⟨A, cap, es, h1, Ab.mono _ B B' w h3 hb, rfl⟩
/-- a past of one's own: its patches' values, how many are done -/
def pOb (b : Nat) (vs : List Pv) (d : Nat) (bl : Nat → Prop) : Ob := .abs (pAb b vs d bl)
theorem HS.pclose {w0 w : World} {l : List Ob} {b : Nat} {A : Option Addr} {cap : Nat} {es : List Pt} {vs : List Pv} {d : Nat} (hV : es.map Pt.pv = vs) (H : HS w0 w (.blk b [.slice A es.length cap, .int .i64 (d : Int)] 79 :: .row A es.length cap (ptCells es) 30 6 :: obA Pt.obs es :: l)) : ∃ bl, HS w0 w (pOb b vs d bl :: l) := by
  refine ⟨(Ab.of (pBase b A cap es d)).has, ?_⟩
  have h1 := HS.pack (l := pBase b A cap es d) H
  exact h1.tail.cons ⟨A, cap, es, hV, h1.own _ List.mem_cons_self, rfl⟩ (List.pairwise_cons.1 h1.apart).1
theorem HS.popen {w0 w : World} {l : List Ob} {b : Nat} {vs : List Pv} {d : Nat} {bl : Nat → Prop} (H : HS w0 w (pOb b vs d bl :: l)) :
    ∃ A cap es, es.map Pt.pv = vs ∧ HS w0 w (.blk b [.slice A es.length cap, .int .i64 (d : Int)] 79 :: .row A es.length cap (ptCells es) 30 6 :: obA Pt.obs es :: l) := by
  obtain ⟨A, cap, es, hV, h1, hb⟩ := (H.own _ List.mem_cons_self : (pAb b vs d bl).ok _ _)
  refine ⟨A, cap, es, hV, ?_⟩
  refine HS.unpack (l := pBase b A cap es d) (H.tail.cons h1 fun o' ho' k hk => ?_)
  exact (List.pairwise_cons.1 H.apart).1 o' ho' k (show bl k from hb ▸ hk)
theorem ptCells_one {p : Pt} : ptCells [p] = p.cells := by simp [ptCells]
theorem ptCells_snoc {es : List Pt} {p : Pt} : ptCells es ++ p.cells = ptCells (es ++ [p]) := by simp [ptCells]
theorem ptCells_drop {es : List Pt} (k : Nat) : (ptCells es).drop (k * 6) = ptCells (es.drop k) := by
  induction k generalizing es with
  | zero => simp
  | succ k ih =>
    cases es with
    | nil => simp [ptCells]
    | cons p es =>
      rw [List.drop_succ_cons, ← ih, Nat.succ_mul, Nat.add_comm]
      unfold ptCells
      rw [List.flatMap_cons, ← List.drop_drop]
      congr 1
theorem ptCells_take {es : List Pt} (k : Nat) : (ptCells es).take (k * 6) = ptCells (es.take k) := by
  induction k generalizing es with
  | zero => simp [ptCells]
  | succ k ih =>
    cases es with
    | nil => simp [ptCells]
    | cons p es =>
      rw [List.take_succ_cons, Nat.succ_mul, Nat.add_comm]
      unfold ptCells at ih ⊢
      rw [List.flatMap_cons, List.flatMap_cons, ← ih]
      rw [List.take_append, List.take_of_length_le (by rw [Pt.cells_len]; omega), Pt.cells_len, Nat.add_sub_cancel_left]
theorem Rd.take {w : World} {A : Option Addr} {xs : List Value} (h : Rd w A xs) (m : Nat) : Rd w A (xs.take m) := fun j u hu => by
  rw [List.getElem?_take] at hu
  split at hu
  · exact h j u hu
  · cases hu
theorem pt_one : ∀ {es : List Pt}, (ptCells es).all Value.oneCell' = true
  | [] => rfl
  | p :: es => by
    unfold ptCells
    rw [List.flatMap_cons, List.all_append, Bool.and_eq_true]
    exact ⟨rfl, pt_one⟩
def pI (l : List Pt) (i : Nat) : Pt := l.getD i ⟨0, 0, 0, 0, ⟨none, 0, 0, []⟩, ⟨none, 0, 0, []⟩⟩
theorem pI_get {l : List Pt} {i : Nat} (h : i < l.length) : l[i]? = some (pI l i) := by unfold pI; rw [List.getD_eq_getElem?_getD, List.getElem?_eq_getElem h]; rfl
theorem pI_mem {l : List Pt} {i : Nat} (h : i < l.length) : pI l i ∈ l := List.mem_of_getElem? (pI_get h)
theorem pI_of {l : List Pt} {x : Pt} (h : x ∈ l) : ∃ j, j < l.length ∧ pI l j = x := by
  obtain ⟨j, hj, rfl⟩ := List.mem_iff_getElem.1 h
  exact ⟨j, hj, by unfold pI; rw [List.getD_eq_getElem?_getD, List.getElem?_eq_getElem hj]; rfl⟩

set_option maxRecDepth 100000 in
theorem CloneI (A : Option Addr) (n cap : Nat) (xs : List Value) (w : World) (h : Rd w A xs) (hl : xs.length = n * 1) (h1 : xs.all Value.oneCell' = true) (hn : n ≤ 16777216) :
    Ret Try.prog 65 [.slice A n cap] w (fun v w' => ∃ A' cap', v = .slice A' n cap' ∧ HS w w' [.row A' n cap' xs 2 1]) := by
 refine ret_enter Try.func65 rfl rfl rfl ?_
 have H0 := HS.start w
 refine cw_seq ?_
 refine cw_reg ?_
 refine ry (y_asg rfl rfl) rfl rfl ?_
 refine reg_nil ?_
 refine fn_next ?_
 refine cw_seq ?_
 refine cw_seq ?_
 refine cw_reg ?_
 refine ry (y_mov rfl rfl) rfl rfl ?_
 refine ry (y_eqlnil rfl Try.underlying28 rfl rfl) rfl rfl ?_
 refine reg_nil ?_
 refine fn_next ?_
 refine cw_cond rfl (fun hA => ?_) (fun hA => ?_)
 ·skip
  obtain rfl := Option.isNone_iff_eq_none.1 hA
  obtain ⟨hz, hn⟩ := rd_zero h hl (by decide) rfl
  subst hz; subst hn
  refine cw_seq ?_
  refine cw_reg ?_
  refine ry (y_asg rfl rfl) rfl rfl ?_
  refine reg_nil ?_
  refine fn_next ?_
  refine cw_ret ?_
  refine fn_then_ret ?_
  refine fn_ret1 rfl rfl ?_
  exact ⟨none, 0, rfl, H0.nilrow _ _⟩
 ·skip
  refine cw_skip ?_
  refine fn_next ?_
  refine cw_seq ?_
  refine cw_reg ?_
  refine reg_op (op_lit (parts := []) (vs := []) (cs := []) H0 rfl Try.underlying28 kfpast0_1 rfl trivial rfl rfl) rfl rfl ?_
  rintro _ w3 ⟨b2, rfl, H4⟩
  have H5 := H4.asrow (m := 0) (size := 1) rfl (by decide)
  refine ry (y_mov rfl rfl) rfl rfl ?_
  refine reg_op (op_app (i := 0) (k := 0) (m := n) (ys := xs) (size := 1) H5 rfl rfl rfl rfl (h.below H5.base) (hl) (h1) Try.underlying28 kfpast0_2 rfl rfl (by unfold maxLen; omega) (by omega)) rfl rfl ?_
  rintro _ w8 ⟨A6, c7, rfl, H9⟩
  refine ry (y_asg rfl rfl) rfl rfl ?_
  refine reg_nil ?_
  refine fn_next ?_
  refine cw_ret ?_
  refine fn_ret1 rfl rfl ?_
  simp only [Nat.zero_add, List.nil_append] at *
  exact ⟨_, _, rfl, H9⟩

set_option maxRecDepth 100000 in
theorem patBack (p : Pt) (w : World) (hp : p.ok w) (mo : p.o.n ≤ 16777216) (mq : p.q.n ≤ 16777216) :
    Ret Try.prog 38 [.agg #[.int .i64 p.x0, .int .i64 p.y0, .int .i64 p.x1, .int .i64 p.y1, .slice p.o.A p.o.n p.o.c, .slice p.q.A p.q.n p.q.c]] w (fun z w' => ∃ A c B c', z = .agg #[.int .i64 p.x0, .int .i64 p.y0, .int .i64 p.x1, .int .i64 p.y1, .slice A p.q.n c, .slice B p.o.n c'] ∧ HS w w' [Ob.row A p.q.n c (vi .i64 p.q.zs) 2 1, Ob.row B p.o.n c' (vi .i64 p.o.zs) 2 1]) := by
 refine ret_enter Try.func38 rfl rfl rfl ?_
 have H0 := HS.start w
 refine cw_seq ?_
 refine cw_reg ?_
 refine reg_op (op_box (cs := [.int _ _, .int _ _, .int _ _, .int _ _, .slice _ _ _, .slice _ _ _]) H0 rfl rfl rfl) rfl rfl ?_
 rintro _ w2 ⟨b1, rfl, H3⟩
 refine reg_op (op_alloc H3 rfl kfpast0_3) rfl rfl ?_
 rintro _ w5 ⟨b4, rfl, H6⟩
 refine reg_nil ?_
 refine fn_next ?_
 refine cw_seq ?_
 refine cw_draw H6 [0, 1, 2, 3, 5, 6] [4, 7, 8, 9] (fun X HX => (HX.pick (m := [_]) [1] rfl (by decide))) (by kernel_rfl) (by kernel_rfl) (by rfl) ?_
 simp only [pick, List.getElem?_cons_succ, List.getElem?_cons_zero]
 refine hk_y (fun Y HY => y_fa rfl rfl kfpast0_4 rfl) rfl rfl ?_
 refine hk_y (fun Y HY => y_lda (cs := [_, _, _, _]) rfl rfl kfpast0_5 rfl (fun j v hv => HY.cell (i := 0) rfl (lst_part (a := 0) (m := 4) hv))) rfl rfl ?_
 refine hk_y (fun Y HY => y_fa rfl rfl kfpast0_6 rfl) rfl rfl ?_
 refine hk_y (fun Y HY => y_ld rfl rfl kfpast0_7 (HY.cell (i := 0) rfl rfl)) rfl rfl ?_
 refine hk_y (fun Y HY => y_fa rfl rfl kfpast0_8 rfl) rfl rfl ?_
 refine hk_y (fun Y HY => y_ld rfl rfl kfpast0_7 (HY.cell (i := 0) rfl rfl)) rfl rfl ?_
 refine hk_nil ?_
 intro w7 H8
 refine tv_op (op_call (CloneI p.q.A p.q.n p.q.c (vi .i64 p.q.zs) _ (hp.hq.rd.below H8.base) (by rw [vi_len, hp.hq.len, Nat.mul_one]) vi_one mq) rfl kfpast0_9 ⟨rfl, trivial⟩) rfl rfl ?_
 rintro _ w10 ⟨A12, c13, rfl, k9⟩
 have H11 := H8.call k9
 refine ⟨(H11.pick (m := [_]) [2] rfl (by decide)), fun w14 e16 => ?_⟩
 have H15 := H11.ext e16
 refine tv_op (op_call (CloneI p.o.A p.o.n p.o.c (vi .i64 p.o.zs) _ (hp.ho.rd.below H15.base) (by rw [vi_len, hp.ho.len, Nat.mul_one]) vi_one mo) rfl kfpast0_9 ⟨rfl, trivial⟩) rfl rfl ?_
 rintro _ w18 ⟨A20, c21, rfl, k17⟩
 have H19 := H15.call k17
 refine ⟨(H19.pick (m := [_]) [3] rfl (by decide)), fun w22 e24 => ?_⟩
 have H23 := H19.ext e24
 refine tv_op (Yd.op (y_buildL (places := [(0, 4), (4, 1), (5, 1)]) (parts := [(0, _), (1, _), (2, _)]) (vs := [(0, _), (1, _), (2, _)]) (cs := [.int _ _, .int _ _, .int _ _, .int _ _, .slice _ _ _, .slice _ _ _]) [(0, [_, _, _, _]), (1, [_]), (2, [_])] rfl Try.underlying30 (by kernel_rfl) kfpast0_3 rfl ⟨rfl, rfl, rfl, trivial⟩ rfl rfl)) rfl rfl ?_
 rintro _ _ ⟨rfl, rfl⟩
 refine ⟨(H23.pick (m := [_]) [3] rfl (by decide)), fun w25 e27 => ?_⟩
 have H26 := H23.ext e27
 refine tv_op (op_st (i := 2) (vs := [.int _ _, .int _ _, .int _ _, .int _ _, .slice _ _ _, .slice _ _ _]) H26 rfl rfl rfl rfl rfl kfpast0_10 rfl rfl rfl) rfl rfl ?_
 rintro _ w28 H29
 refine ⟨(H29.pick (m := [_]) [3] rfl (by decide)), fun w30 e32 => ?_⟩
 have H31 := H29.ext e32
 refine tv_nil ?_
 refine fn_next ?_
 refine cw_ret ?_
 refine fn_ret1 rfl (⟨_, rfl, load_agg (cs := [_, _, _, _, _, _]) kfpast0_11 rfl fun j v hv => by rw [Nat.zero_add]; exact H31.cell (i := 2) rfl hv⟩) ?_
 exact ⟨_, _, _, _, rfl, (H31.pick (m := [_, _]) [1, 0] rfl (by decide))⟩

set_option maxRecDepth 100000 in
theorem pastOwn (p : Pt) (w : World) (hp : p.ok w) (mo : p.o.n ≤ 16777216) (mq : p.q.n ≤ 16777216) :
    Ret Try.prog 36 [.agg #[.int .i64 p.x0, .int .i64 p.y0, .int .i64 p.x1, .int .i64 p.y1, .slice p.o.A p.o.n p.o.c, .slice p.q.A p.q.n p.q.c]] w (fun z w' => ∃ A c B c', z = .agg #[.int .i64 p.x0, .int .i64 p.y0, .int .i64 p.x1, .int .i64 p.y1, .slice A p.o.n c, .slice B p.q.n c'] ∧ HS w w' [Ob.row A p.o.n c (vi .i64 p.o.zs) 2 1, Ob.row B p.q.n c' (vi .i64 p.q.zs) 2 1]) := by
 refine ret_enter Try.func36 rfl rfl rfl ?_
 have H0 := HS.start w
 refine cw_seq ?_
 refine cw_reg ?_
 refine reg_op (op_box (cs := [.int _ _, .int _ _, .int _ _, .int _ _, .slice _ _ _, .slice _ _ _]) H0 rfl rfl rfl) rfl rfl ?_
 rintro _ w2 ⟨b1, rfl, H3⟩
 refine reg_op (op_alloc H3 rfl kfpast0_3) rfl rfl ?_
 rintro _ w5 ⟨b4, rfl, H6⟩
 refine reg_nil ?_
 refine fn_next ?_
 refine cw_seq ?_
 refine cw_reg ?_
 refine ry (y_ldb (i := 1) (cs := [_, _, _, _, _, _]) H6 rfl rfl kfpast0_11 rfl rfl) rfl rfl ?_
 refine reg_op (op_call (patBack p _ (hp.below H6.base) mo mq) rfl kfpast0_12 ⟨rfl, trivial⟩) rfl rfl ?_
 rintro _ w8 ⟨A10, c11, B12, d13, rfl, k7⟩
 have H9 := H6.call k7
 refine reg_op (op_call (patBack ⟨p.x0, p.y0, p.x1, p.y1, ⟨A10, p.q.n, c11, p.q.zs⟩, ⟨B12, p.o.n, d13, p.o.zs⟩⟩ _ (HS.ptok H9 ⟨hp.b0, hp.b1, hp.b2, hp.b3, hp.hq.wf, hp.ho.wf, by show p.q.zs.length ≤ _; rw [hp.hq.len]; exact mq, by show p.o.zs.length ≤ _; rw [hp.ho.len]; exact mo⟩) mq mo) rfl kfpast0_12 ⟨rfl, trivial⟩) rfl rfl ?_
 rintro _ w15 ⟨A17, c18, B19, d20, rfl, k14⟩
 have H16 := H9.call k14
 refine reg_op (op_st (i := 4) (vs := [.int _ _, .int _ _, .int _ _, .int _ _, .slice _ _ _, .slice _ _ _]) H16 rfl rfl rfl rfl rfl kfpast0_10 rfl rfl rfl) rfl rfl ?_
 rintro _ w21 H22
 refine reg_nil ?_
 refine fn_next ?_
 refine cw_ret ?_
 refine fn_ret1 rfl (⟨_, rfl, load_agg (cs := [_, _, _, _, _, _]) kfpast0_11 rfl fun j v hv => by rw [Nat.zero_add]; exact H22.cell (i := 4) rfl hv⟩) ?_
 exact ⟨_, _, _, _, rfl, (H22.pick (m := [_, _]) [0, 1] rfl (by decide))⟩

set_option maxRecDepth 100000 in
theorem clipP (A : Option Addr) (n c : Nat) (w : World) (hn : n ≤ c) :
    Ret Try.prog 35 [.slice A n c] w (fun z w' => z = .slice A n n ∧ Below w.heap.size w w') := by
 refine ret_enter Try.func35 rfl rfl rfl ?_
 have H0 := HS.start w
 refine cw_seq ?_
 refine cw_reg ?_
 refine ry (y_asg rfl rfl) rfl rfl ?_
 refine reg_nil ?_
 refine fn_next ?_
 refine cw_seq ?_
 refine cw_reg ?_
 refine ry (y_mov rfl rfl) rfl rfl ?_
 refine ry (y_mov rfl rfl) rfl rfl ?_
 refine ry (y_len rfl Try.underlying22 rfl) rfl rfl ?_
 refine ry (y_mov rfl rfl) rfl rfl ?_
 refine ry (y_len rfl Try.underlying22 rfl) rfl rfl ?_
 refine ry (y_shm rfl rfl rfl rfl kfpast0_13 (rfl) (rfl) (by omega) (by omega)) rfl rfl ?_
 refine ry (y_asg rfl rfl) rfl rfl ?_
 refine reg_nil ?_
 refine fn_next ?_
 refine cw_ret ?_
 refine fn_ret1 rfl rfl ?_
 rw [subA_zero]
 exact ⟨rfl, H0.base⟩

set_option maxRecDepth 100000 in
theorem patDel (w0 : World) (l : List Ob) (A : Option Addr) (c : Nat) (es : List Pt) (w : World) (hn : 2 ≤ es.length) (hm : es.length ≤ 100) (H0 : HS w0 w (Ob.row A es.length c (ptCells es) 30 6 :: l)) :
    Ret Try.prog 37 [.slice A es.length c, .int .i64 0, .int .i64 1] w (fun z w' => z = .slice A (es.length - 1) c ∧ HS w0 w' (Ob.row A (es.length - 1) c (ptCells (es.drop 1)) 30 6 :: l)) := by
 have hnc := (H0.len (i := 0) rfl).2.1
 refine ret_enter Try.func37 rfl rfl rfl ?_
 refine cw_seq ?_
 refine cw_reg ?_
 refine ry (y_asg rfl rfl) rfl rfl ?_
 refine reg_nil ?_
 refine fn_next ?_
 refine cw_seq ?_
 refine cw_reg ?_
 refine ry (y_mov rfl rfl) rfl rfl ?_
 refine ry (y_mov rfl rfl) rfl rfl ?_
 refine ry (y_mov rfl rfl) rfl rfl ?_
 refine ry (y_mov rfl rfl) rfl rfl ?_
 refine ry (y_len rfl Try.underlying22 rfl) rfl rfl ?_
 refine ry (y_slhm (lo := 0) (hi := 1) (mx := es.length) rfl rfl rfl rfl rfl kfpast0_13 rfl rfl rfl (by omega) (by omega) (by omega)) rfl rfl ?_
 refine reg_nil ?_
 refine fn_next ?_
 refine cw_seq ?_
 refine cw_seq ?_
 refine cw_reg ?_
 refine ry (y_mov rfl rfl) rfl rfl ?_
 refine ry (y_mov rfl rfl) rfl rfl ?_
 refine ry (y_eql rfl rfl rfl) rfl rfl ?_
 refine reg_nil ?_
 refine fn_next ?_
 refine cw_condf rfl ?_
 refine cw_skip ?_
 refine fn_next ?_
 refine cw_seq ?_
 refine cw_reg ?_
 refine ry (y_mov rfl rfl) rfl rfl ?_
 refine ry (y_len rfl Try.underlying22 rfl) rfl rfl ?_
 refine ry (y_asg rfl rfl) rfl rfl ?_
 refine reg_nil ?_
 refine fn_next ?_
 refine cw_seq ?_
 refine cw_draw H0 [0, 1, 2, 3, 4, 5] [6, 7] (fun X HX => (HX.pickT (p := [_]) (m := []) [] rfl (by decide))) (by kernel_rfl) (by kernel_rfl) (by rfl) ?_
 simp only [pick, List.getElem?_cons_succ, List.getElem?_cons_zero]
 refine hk_y (fun Y HY => y_mov rfl rfl) rfl rfl ?_
 refine hk_y (fun Y HY => y_mov rfl rfl) rfl rfl ?_
 refine hk_y (fun Y HY => yv (congrArg (fun B => Value.slice B 0 c) subA_zero) (y_sh (hi := 0) rfl rfl rfl kfpast0_13 rfl (by omega))) rfl rfl ?_
 refine hk_y (fun Y HY => y_mov rfl rfl) rfl rfl ?_
 refine hk_y (fun Y HY => y_mov rfl rfl) rfl rfl ?_
 refine hk_y (fun Y HY => y_sl (lo := 1) rfl rfl rfl kfpast0_13 rfl (by omega)) rfl rfl ?_
 refine hk_nil ?_
 intro w1 H2
 refine tv_op (op_appr (i := 0) (k := 0) (cap := c) (m := es.length - 1) (xs := []) (H2.clip (i := 0) (n' := 0) (cap' := c) (m := Ob.row A 0 c [] 30 6 :: l) rfl (Nat.zero_le _) (Nat.le_refl _) (Nat.zero_le _) (by simp)) rfl rfl rfl rfl (Rd.slice (H2.rd (i := 0) rfl) (show 1 ≤ es.length by omega) hnc) (by rw [List.length_drop, List.length_take, pt_len]; omega) (by rw [ptCells_take, ptCells_drop]; exact pt_one) Try.underlying22 kfpast0_14 rfl rfl (by omega) (by omega)) rfl rfl ?_
 rintro _ w3 ⟨rfl, H4⟩
 refine ⟨(H4.pickT (p := [_]) (m := []) [] rfl (by decide)), fun w5 e7 => ?_⟩
 have H6 := H4.ext e7
 refine tv_op (Yd.op (y_asg rfl rfl)) rfl rfl ?_
 rintro _ _ ⟨rfl, rfl⟩
 refine ⟨(H6.pickT (p := [_]) (m := []) [] rfl (by decide)), fun w8 e10 => ?_⟩
 have H9 := H6.ext e10
 refine tv_nil ?_
 refine fn_next ?_
 refine cw_seq ?_
 refine cw_reg ?_
 rw [show [] ++ List.drop (1 * 6) (List.take (es.length * 6) (ptCells es)) = ptCells (es.drop 1) from by rw [List.nil_append, ptCells_take, ptCells_drop, List.take_length], Nat.zero_add] at H9
 refine ry (y_mov rfl rfl) rfl rfl ?_
 refine ry (y_mov rfl rfl) rfl rfl ?_
 refine ry (y_len rfl Try.underlying22 rfl) rfl rfl ?_
 refine ry (y_mov rfl rfl) rfl rfl ?_
 refine ry (y_slh (lo := es.length - 1) (hi := es.length) rfl rfl rfl rfl kfpast0_13 (by omega) rfl (by omega) (by omega)) rfl rfl ?_
 refine reg_op (op_clr (i := 0) H9 rfl rfl rfl Try.underlying22 kfpast0_14 rfl rfl (by omega) (by omega)) rfl rfl ?_
 rintro _ w11 H12
 refine reg_nil ?_
 refine fn_next ?_
 refine cw_seq ?_
 refine cw_reg ?_
 refine ry (y_mov rfl rfl) rfl rfl ?_
 refine ry (y_asg rfl rfl) rfl rfl ?_
 refine reg_nil ?_
 refine fn_next ?_
 refine cw_ret ?_
 refine fn_ret1 rfl rfl ?_
 refine ⟨?_, H12⟩
 rw [Nat.zero_add]

end Go.Proofs.Ytgkkbeomhkggjaa
