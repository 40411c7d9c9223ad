/- Layer 9: what is only read. -/
import Derived.Test.YtkphmcaoioaglaaPlain9b
import Derived.Test.YtkphmcaoioaglaaSlab2
import Derived.Test.YtkphmcaoioaglaaKL
set_option linter.unusedVariables false
set_option linter.unusedSimpArgs false
namespace Go.Proofs.Ytkphmcaoioaglaa
open Go Go.RowKit
theorem kfgrid0_1 : (Try.prog.info? 26).bind (fun i => i.zero.map Value.cells) = some (List.toArray [(.int .i64 0), (.int .i64 0)]) := by kernel_rfl
theorem kfgrid0_2 : szB Try.prog 26 2 = true := by kernel_rfl
theorem kfgrid0_3 : aggB Try.prog 26 2 = true := by kernel_rfl
theorem kfgrid0_4 : (Try.prog.info? 24).bind (fun i => i.zero.map Value.cells) = some (List.toArray [(.int .i64 0), (.int .i64 0), (.int .i64 0), (.int .i64 0)]) := by kernel_rfl
theorem kfgrid0_5 : fldB Try.prog 26 0 0 = true := by kernel_rfl
theorem kfgrid0_6 : oneB Try.prog 2 = true := by kernel_rfl
theorem kfgrid0_7 : fldB Try.prog 26 1 1 = true := by kernel_rfl
theorem kfgrid0_8 : szB Try.prog 24 4 = true := by kernel_rfl
theorem kfgrid0_9 : aggB Try.prog 24 4 = true := by kernel_rfl
theorem kfgrid0_10 : fldB Try.prog 140 0 0 = true := by kernel_rfl
theorem kfgrid0_11 : fldB Try.prog 140 1 1 = true := by kernel_rfl
theorem kfgrid0_12 : callB Try.prog 78 = true := by kernel_rfl
theorem kfgrid0_13 : fldB Try.prog 140 3 3 = true := by kernel_rfl
theorem kfgrid0_14 : oneB Try.prog 138 = true := by kernel_rfl
theorem kfgrid0_15 : fldB Try.prog 140 2 2 = true := by kernel_rfl
theorem kfgrid0_16 : elB Try.prog 138 1 = true := by kernel_rfl
theorem kfgrid0_17 : oneB Try.prog 51 = true := by kernel_rfl
theorem kfgrid0_18 : callB Try.prog 97 = true := by kernel_rfl
theorem kfgrid0_19 : callB Try.prog 94 = true := by kernel_rfl
theorem kfgrid0_20 : callB Try.prog 96 = true := by kernel_rfl
theorem kfgrid0_21 : callB Try.prog 95 = true := by kernel_rfl
theorem kfgrid0_22 : callB Try.prog 39 = true := by kernel_rfl
theorem kfgrid0_23 : callB Try.prog 35 = true := by kernel_rfl
def ptrs (xs : List Sb) : List Value := xs.map fun s => .pointer (some ⟨s.b, 0, none⟩)
def Sb.cells (s : Sb) : List Value := [.int .i64 (s.w : Int), .int .i64 (s.h : Int), s.L.val (s.w * s.h)]
def Sb.obs (s : Sb) : List Ob := [.blk s.b s.cells 124, s.L.ob (s.w * s.h)]
theorem ptrs_len {xs : List Sb} : (ptrs xs).length = xs.length := by simp [ptrs]
theorem ptrs_get {xs : List Sb} {t : Nat} (h : t < xs.length) : (ptrs xs)[t]? = some (.pointer (some ⟨(gs xs t).b, 0, none⟩)) := by
  unfold ptrs; rw [List.getElem?_map, gs_get h]; rfl
/-- a grid, as it is read -/
structure GR (w : World) (g a h : Nat) (A : Option Addr) (cap : Nat) (xs : List Sb) : Prop where
  blk : Rd w (some ⟨g, 0, none⟩) [.int .i64 (a : Int), .int .i64 (h : Int), .int .i64 (across a : Int), .slice A xs.length cap]
  row : Rd w A (ptrs xs)
  sl : ∀ t, t < xs.length → Rd w (some ⟨(gs xs t).b, 0, none⟩) (gs xs t).cells ∧ (gs xs t).L.rd w
theorem GR.below {w w' : World} {g a h : Nat} {A : Option Addr} {cap : Nat} {xs : List Sb} (G : GR w g a h A cap xs) (hb : Below w.heap.size w w') : GR w' g a h A cap xs :=
  ⟨G.blk.below hb, G.row.below hb, fun t ht => ⟨(G.sl t ht).1.below hb, Ld.rd_below (G.sl t ht).2 hb⟩⟩
theorem Rd.row_of {w0 w : World} {l : List Ob} {A : Option Addr} {n cap size : Nat} {vs : List Value} {e : TypeId} (h : HS w0 w (.row A n cap vs e size :: l)) : Rd w A vs := h.rd (i := 0) rfl
def gBase (g a h : Nat) (A : Option Addr) (cap : Nat) (xs : List Sb) : List Ob := [.blk g [.int .i64 (a : Int), .int .i64 (h : Int), .int .i64 (across a : Int), .slice A xs.length cap] 140, .row A xs.length cap (ptrs xs) 51 1, obA Sb.obs xs]
theorem GR.of {w0 w : World} {l : List Ob} {g a h : Nat} {A : Option Addr} {cap : Nat} {xs : List Sb} (H : HS w0 w (.blk g [.int .i64 (a : Int), .int .i64 (h : Int), .int .i64 (across a : Int), .slice A xs.length cap] 140 :: .row A xs.length cap (ptrs xs) 51 1 :: obA Sb.obs xs :: l)) : GR w g a h A cap xs :=
  ⟨H.rdb (i := 0) rfl, H.rd (i := 1) rfl, fun t ht => by
    have h1 : HS w0 w (obA Sb.obs xs :: l) := H.tail.tail
    have h2 := h1.memA (List.mem_of_getElem? (gs_get ht))
    exact ⟨h2.rdb (i := 0) rfl, Ld.rd_of (L := (gs xs t).L) h2 (i := 1) rfl⟩⟩
/-- a grid as one thing: its place, size and values -/
def gAb (g a h : Nat) (V : List Int) (bl : Nat → Prop) : Ab where
  ok B w := ∃ A cap xs, GI a h xs ∧ gV xs a h = V ∧ (Ab.of (gBase g a h A cap xs)).ok B w ∧ (Ab.of (gBase g a h A cap xs)).has = bl
  has := bl
  lt B w h k hk := by
    obtain ⟨A, cap, xs, _, _, h1, rfl⟩ := h
    exact Ab.lt _ B w h1 k hk
  keep B w w' row h hg hne := by
    obtain ⟨A, cap, xs, h1, h2, h3, rfl⟩ := h
    exact ⟨A, cap, xs, h1, h2, Ab.keep _ B w w' row h3 hg hne, rfl⟩
  mono B B' w h hb := by
    obtain ⟨A, cap, xs, h1, h2, h3, rfl⟩ := h
    exact ⟨A, cap, xs, h1, h2, Ab.mono _ B B' w h3 hb, rfl⟩
def gOb (g a h : Nat) (V : List Int) (bl : Nat → Prop) : Ob := .abs (gAb g a h V bl)
theorem HS.gclose {w0 w : World} {l : List Ob} {g a h : Nat} {A : Option Addr} {cap : Nat} {xs : List Sb} {V : List Int} (G : GI a h xs) (hV : gV xs a h = V) (H : HS w0 w (.blk g [.int .i64 (a : Int), .int .i64 (h : Int), .int .i64 (across a : Int), .slice A xs.length cap] 140 :: .row A xs.length cap (ptrs xs) 51 1 :: obA Sb.obs xs :: l)) :
    ∃ bl, HS w0 w (gOb g a h V bl :: l) := by
  refine ⟨(Ab.of (gBase g a h A cap xs)).has, ?_⟩
  have h1 := HS.pack (l := gBase g a h A cap xs) H
  exact h1.tail.cons ⟨A, cap, xs, G, hV, h1.own _ List.mem_cons_self, rfl⟩ (List.pairwise_cons.1 h1.apart).1
theorem HS.gopen {w0 w : World} {l : List Ob} {g a h : Nat} {V : List Int} {bl : Nat → Prop} (H : HS w0 w (gOb g a h V bl :: l)) :
    ∃ A cap xs, GI a h xs ∧ gV xs a h = V ∧ HS w0 w (.blk g [.int .i64 (a : Int), .int .i64 (h : Int), .int .i64 (across a : Int), .slice A xs.length cap] 140 :: .row A xs.length cap (ptrs xs) 51 1 :: obA Sb.obs xs :: l) := by
  obtain ⟨A, cap, xs, G, hV, h1, hb⟩ := (H.own _ List.mem_cons_self : (gAb g a h V bl).ok _ _)
  refine ⟨A, cap, xs, G, hV, ?_⟩
  refine HS.unpack (l := gBase g a h A cap xs) (H.tail.cons h1 fun o' ho' k hk => ?_)
  exact (List.pairwise_cons.1 H.apart).1 o' ho' k (show bl k from hb ▸ hk)
/-- a grid that is there, to be read -/
def GRd (w : World) (g a h : Nat) (V : List Int) : Prop := ∃ A cap xs, GI a h xs ∧ gV xs a h = V ∧ GR w g a h A cap xs
theorem GRd.below {w w' : World} {g a h : Nat} {V : List Int} (R : GRd w g a h V) (hb : Below w.heap.size w w') : GRd w' g a h V := by
  obtain ⟨A, cap, xs, G, hV, R⟩ := R
  exact ⟨A, cap, xs, G, hV, R.below hb⟩
theorem HS.rdg {w0 w : World} {l : List Ob} {i g a h : Nat} {V : List Int} {bl : Nat → Prop} (H : HS w0 w l) (hi : l[i]? = some (gOb g a h V bl)) : GRd w g a h V := by
  obtain ⟨A, cap, xs, G, hV, h1, hb⟩ := (H.at_ hi : (gAb g a h V bl).ok _ _)
  have h2 : HS w0 w (gBase g a h A cap xs) := ⟨H.base, h1.1, h1.2⟩
  exact ⟨A, cap, xs, G, hV, GR.of h2⟩
def SzG (a h : Nat) : Prop := 1 ≤ a ∧ a ≤ 1024 ∧ 1 ≤ h ∧ h ≤ 1024
theorem gV_bd {a h : Nat} {xs : List Sb} (G : GI a h xs) : AllB (gV xs a h) := fun v hv => by
  unfold gV at hv
  obtain ⟨i, hi, rfl⟩ := List.mem_map.1 hv
  have hi' := List.mem_range.1 hi
  have ha := G.a1
  have hx : i % a < a := Nat.mod_lt _ (by omega)
  have hy : i / a < h := Nat.div_lt_of_lt_mul hi'
  obtain ⟨ht, b1, b2⟩ := G.tile hx hy
  have hll : (gs xs (tno a (i % a) (i / a))).lst.length = (gs xs (tno a (i % a) (i / a))).w * (gs xs (tno a (i % a) (i / a))).h := Ld.len (G.ok _ ht)
  unfold gval
  refine AllB.at_ (Ld.bd (G.ok _ ht)) ?_
  have := cell_lt' b1 b2
  simp only [Sb.lst] at hll
  rw [hll]; exact Nat.lt_of_lt_of_eq this (Nat.mul_comm _ _)
structure GV (a h : Nat) (V : List Int) : Prop where
  a1 : 1 ≤ a
  a2 : a ≤ 1024
  h1 : 1 ≤ h
  h2 : h ≤ 1024
  len : V.length = a * h
  bd : AllB V
theorem GRd.gv {w : World} {g a h : Nat} {V : List Int} (R : GRd w g a h V) : GV a h V := by
  obtain ⟨A, cap, xs, G, rfl, R⟩ := R
  exact ⟨G.a1, G.a2, G.h1, G.h2, gV_len, gV_bd G⟩
theorem GV.sz {a h : Nat} {V : List Int} (G : GV a h V) : SzG a h := ⟨G.a1, G.a2, G.h1, G.h2⟩
theorem quo16 {x : Nat} (h : x ≤ 1024) : IntKind.i64.wrap ((x : Int).tdiv 16) = ((x / 16 : Nat) : Int) := tdq (by omega) ((wi (by omega)).trans (by omega))
theorem rem16 {x : Nat} : (x : Int).tmod 16 = ((x % 16 : Nat) : Int) := by
  rw [Int.tmod_eq_emod_of_nonneg (by omega)]; omega

set_option maxRecDepth 100000 in
theorem gridInner_any (x y : Nat) (w : World) :
    Ret Try.prog 95 [.int .i64 (x : Int), .int .i64 (y : Int)] w (fun v w' => v = .agg #[.int .i64 ((x % 16 : Nat) : Int), .int .i64 ((y % 16 : Nat) : Int)] ∧ Below w.heap.size w w') := by
  refine ret_enter Try.func95 rfl rfl rfl ?_
  have H0 := HS.start w
  refine cw_seq ?_
  refine cw_reg ?_
  refine reg_op (op_alloc H0 rfl kfgrid0_1) rfl rfl ?_
  rintro _ w2 ⟨b1, rfl, H3⟩
  refine reg_nil ?_
  refine fn_next ?_
  refine cw_seq ?_
  refine cw_reg ?_
  refine ry (y_mov rfl rfl) rfl rfl ?_
  refine ry (y_rem rfl rfl rfl (by decide) (rem16)) rfl rfl ?_
  refine ry (y_mov rfl rfl) rfl rfl ?_
  refine ry (y_rem rfl rfl rfl (by decide) (rem16)) rfl rfl ?_
  refine ry (y_build (places := [(0, 1), (1, 1)]) (parts := [(0, _), (1, _)]) (vs := [(0, _), (1, _)]) (cs := [.int _ _, .int _ _]) rfl Try.underlying26 (by kernel_rfl) kfgrid0_1 rfl ⟨rfl, rfl, trivial⟩ rfl) rfl rfl ?_
  refine reg_op (op_st (i := 0) (vs := [.int _ _, .int _ _]) H3 rfl rfl rfl rfl rfl kfgrid0_2 rfl rfl rfl) rfl rfl ?_
  rintro _ w4 H5
  refine reg_nil ?_
  refine fn_next ?_
  refine cw_ret ?_
  refine fn_ret1 rfl (⟨_, rfl, load_agg (cs := [_, _]) kfgrid0_3 rfl fun j v hv => by rw [Nat.zero_add]; exact H5.cell (i := 0) rfl hv⟩) ?_
  exact ⟨rfl, H5.base⟩

set_option maxRecDepth 100000 in
theorem gridSpot_any (x y : Int) (w : World) :
    Ret Try.prog 97 [.agg #[.int .i64 x, .int .i64 y]] w (fun v w' => v = .agg #[.int .i64 x, .int .i64 y, .int .i64 x, .int .i64 y] ∧ Below w.heap.size w w') := by
  refine ret_enter Try.func97 rfl rfl rfl ?_
  have H0 := HS.start w
  refine cw_seq ?_
  refine cw_reg ?_
  refine reg_op (op_box (cs := [.int _ _, .int _ _]) H0 rfl rfl rfl) rfl rfl ?_
  rintro _ w2 ⟨b1, rfl, H3⟩
  refine reg_op (op_alloc H3 rfl kfgrid0_4) rfl rfl ?_
  rintro _ w5 ⟨b4, rfl, H6⟩
  refine reg_nil ?_
  refine fn_next ?_
  refine cw_seq ?_
  refine cw_reg ?_
  refine ry (y_fa rfl rfl kfgrid0_5 rfl) rfl rfl ?_
  refine ry (y_ld rfl rfl kfgrid0_6 (H6.cell (i := 1) rfl rfl)) rfl rfl ?_
  refine ry (y_fa rfl rfl kfgrid0_7 rfl) rfl rfl ?_
  refine ry (y_ld rfl rfl kfgrid0_6 (H6.cell (i := 1) rfl rfl)) rfl rfl ?_
  refine ry (y_fa rfl rfl kfgrid0_5 rfl) rfl rfl ?_
  refine ry (y_ld rfl rfl kfgrid0_6 (H6.cell (i := 1) rfl rfl)) rfl rfl ?_
  refine ry (y_fa rfl rfl kfgrid0_7 rfl) rfl rfl ?_
  refine ry (y_ld rfl rfl kfgrid0_6 (H6.cell (i := 1) rfl rfl)) rfl rfl ?_
  refine ry (y_build (places := [(0, 1), (1, 1), (2, 1), (3, 1)]) (parts := [(0, _), (1, _), (2, _), (3, _)]) (vs := [(0, _), (1, _), (2, _), (3, _)]) (cs := [.int _ _, .int _ _, .int _ _, .int _ _]) rfl Try.underlying24 (by kernel_rfl) kfgrid0_4 rfl ⟨rfl, rfl, rfl, rfl, trivial⟩ rfl) rfl rfl ?_
  refine reg_op (op_st (i := 0) (vs := [.int _ _, .int _ _, .int _ _, .int _ _]) H6 rfl rfl rfl rfl rfl kfgrid0_8 rfl rfl rfl) rfl rfl ?_
  rintro _ w7 H8
  refine reg_nil ?_
  refine fn_next ?_
  refine cw_ret ?_
  refine fn_ret1 rfl (⟨_, rfl, load_agg (cs := [_, _, _, _]) kfgrid0_9 rfl fun j v hv => by rw [Nat.zero_add]; exact H8.cell (i := 0) rfl hv⟩) ?_
  exact ⟨rfl, H8.base⟩

set_option maxRecDepth 100000 in
theorem gridCheck_any (g a h : Nat) (A : Option Addr) (cap : Nat) (xs : List Sb) (x0 y0 x1 y1 : Int) (w : World) (G : GI a h xs) (R : GR w g a h A cap xs) :
    Ret Try.prog 94 [pt (some ⟨g, 0, none⟩) 0, .agg #[.int .i64 x0, .int .i64 y0, .int .i64 x1, .int .i64 y1]] w (fun v w' => v = .int .i64 (withinC x0 y0 x1 y1 a h) ∧ Below w.heap.size w w') := by
  have ha1 := G.a1; have ha2 := G.a2; have hh1 := G.h1; have hh2 := G.h2
  refine ret_enter Try.func94 rfl rfl rfl ?_
  have H0 := HS.start w
  refine cw_seq ?_
  refine cw_reg ?_
  refine reg_op (op_box (cs := [.int _ _, .int _ _, .int _ _, .int _ _]) H0 rfl rfl rfl) rfl rfl ?_
  rintro _ w2 ⟨b1, rfl, H3⟩
  refine ry (y_asg rfl rfl) rfl rfl ?_
  refine reg_nil ?_
  refine fn_next ?_
  refine cw_seq ?_
  refine cw_seq ?_
  refine cw_reg ?_
  refine ry (y_mov rfl rfl) rfl rfl ?_
  refine ry (y_peqlnil rfl Try.underlying74 rfl rfl) rfl rfl ?_
  refine reg_nil ?_
  refine fn_next ?_
  refine cw_condf rfl ?_
  refine cw_skip ?_
  refine fn_next ?_
  refine cw_seq ?_
  refine cw_draw H3 [0, 1, 2, 3, 4, 5, 6, 7, 8, 9, 10] [] (fun X HX => HX) (by kernel_rfl) (by kernel_rfl) (by rfl) ?_
  simp only [pick, List.getElem?_cons_succ, List.getElem?_cons_zero]
  refine hk_y (fun Y HY => y_ldb (i := 0) (cs := [_, _, _, _]) HY rfl rfl kfgrid0_9 rfl rfl) rfl rfl ?_
  refine hk_y (fun Y HY => y_mov rfl rfl) rfl rfl ?_
  refine hk_y (fun Y HY => y_nilck rfl rfl) rfl rfl ?_
  refine hk_y (fun Y HY => y_far ((R.below HY.base).blk) rfl rfl kfgrid0_10 rfl (rfl)) rfl rfl ?_
  refine hk_y (fun Y HY => y_ldr ((R.below HY.base).blk) rfl rfl kfgrid0_6 (rfl)) rfl rfl ?_
  refine hk_y (fun Y HY => y_mov rfl rfl) rfl rfl ?_
  refine hk_y (fun Y HY => y_nilck rfl rfl) rfl rfl ?_
  refine hk_y (fun Y HY => y_far ((R.below HY.base).blk) rfl rfl kfgrid0_11 rfl (rfl)) rfl rfl ?_
  refine hk_y (fun Y HY => y_ldr ((R.below HY.base).blk) rfl rfl kfgrid0_6 (rfl)) rfl rfl ?_
  refine hk_q (qy_call (fun Y HY => ret_elder (within_any x0 y0 x1 y1 a h _)) rfl kfgrid0_12 ⟨rfl, rfl, rfl, trivial⟩) rfl rfl ?_
  refine hk_y (fun Y HY => y_asg rfl rfl) rfl rfl ?_
  refine hk_nil ?_
  intro w4 H5
  refine tv_nil ?_
  refine fn_next ?_
  refine cw_ret ?_
  refine fn_ret1 rfl rfl ?_
  exact ⟨rfl, H5.base⟩

set_option maxRecDepth 100000 in
theorem gridSize_any (g a h : Nat) (A : Option Addr) (cap : Nat) (xs : List Sb) (w : World) (G : GI a h xs) (R : GR w g a h A cap xs) :
    Ret Try.prog 69 [pt (some ⟨g, 0, none⟩) 0] w (fun v w' => v = .tuple #[.int .i64 (a : Int), .int .i64 (h : Int)] ∧ Below w.heap.size w w') := by
  have ha1 := G.a1; have ha2 := G.a2; have hh1 := G.h1; have hh2 := G.h2
  refine ret_enter Try.func69 rfl rfl rfl ?_
  have H0 := HS.start w
  refine cw_seq ?_
  refine cw_reg ?_
  refine ry (y_asg rfl rfl) rfl rfl ?_
  refine ry (y_asg rfl rfl) rfl rfl ?_
  refine reg_nil ?_
  refine fn_next ?_
  refine cw_seq ?_
  refine cw_seq ?_
  refine cw_reg ?_
  refine ry (y_mov rfl rfl) rfl rfl ?_
  refine ry (y_peqlnil rfl Try.underlying74 rfl rfl) rfl rfl ?_
  refine reg_nil ?_
  refine fn_next ?_
  refine cw_condf rfl ?_
  refine cw_skip ?_
  refine fn_next ?_
  refine cw_seq ?_
  refine cw_draw H0 [0, 1, 2, 3, 4, 5, 6, 7, 8, 9] [] (fun X HX => HX) (by kernel_rfl) (by kernel_rfl) (by rfl) ?_
  simp only [pick, List.getElem?_cons_succ, List.getElem?_cons_zero]
  refine hk_y (fun Y HY => y_mov rfl rfl) rfl rfl ?_
  refine hk_y (fun Y HY => y_nilck rfl rfl) rfl rfl ?_
  refine hk_y (fun Y HY => y_far ((R.below HY.base).blk) rfl rfl kfgrid0_10 rfl (rfl)) rfl rfl ?_
  refine hk_y (fun Y HY => y_ldr ((R.below HY.base).blk) rfl rfl kfgrid0_6 (rfl)) rfl rfl ?_
  refine hk_y (fun Y HY => y_mov rfl rfl) rfl rfl ?_
  refine hk_y (fun Y HY => y_nilck rfl rfl) rfl rfl ?_
  refine hk_y (fun Y HY => y_far ((R.below HY.base).blk) rfl rfl kfgrid0_11 rfl (rfl)) rfl rfl ?_
  refine hk_y (fun Y HY => y_ldr ((R.below HY.base).blk) rfl rfl kfgrid0_6 (rfl)) rfl rfl ?_
  refine hk_y (fun Y HY => y_asg rfl rfl) rfl rfl ?_
  refine hk_y (fun Y HY => y_asg rfl rfl) rfl rfl ?_
  refine hk_nil ?_
  intro w1 H2
  refine tv_nil ?_
  refine fn_next ?_
  refine cw_ret ?_
  refine fn_retn (vs := [_, _]) rfl ⟨rfl, rfl, trivial⟩ rfl ?_
  exact ⟨rfl, H2.base⟩

set_option maxRecDepth 100000 in
theorem gridAll_any (g a h : Nat) (A : Option Addr) (cap : Nat) (xs : List Sb) (w : World) (G : GI a h xs) (R : GR w g a h A cap xs) :
    Ret Try.prog 51 [pt (some ⟨g, 0, none⟩) 0] w (fun v w' => v = .agg #[.int .i64 0, .int .i64 0, .int .i64 ((a : Int) - 1), .int .i64 ((h : Int) - 1)] ∧ Below w.heap.size w w') := by
  have ha1 := G.a1; have ha2 := G.a2; have hh1 := G.h1; have hh2 := G.h2
  refine ret_enter Try.func51 rfl rfl rfl ?_
  have H0 := HS.start w
  refine cw_seq ?_
  refine cw_reg ?_
  refine reg_op (op_alloc H0 rfl kfgrid0_4) rfl rfl ?_
  rintro _ w2 ⟨b1, rfl, H3⟩
  refine reg_nil ?_
  refine fn_next ?_
  refine cw_seq ?_
  refine cw_seq ?_
  refine cw_reg ?_
  refine ry (y_mov rfl rfl) rfl rfl ?_
  refine ry (y_peqlnil rfl Try.underlying74 rfl rfl) rfl rfl ?_
  refine reg_nil ?_
  refine fn_next ?_
  refine cw_condf rfl ?_
  refine cw_skip ?_
  refine fn_next ?_
  refine cw_seq ?_
  refine cw_draw H3 [0, 1, 2, 3, 4, 5, 6, 7, 8, 9, 10] [11] (fun X HX => (HX.pick (m := []) [] rfl (by decide))) (by kernel_rfl) (by kernel_rfl) (by rfl) ?_
  simp only [pick, List.getElem?_cons_succ, List.getElem?_cons_zero]
  refine hk_y (fun Y HY => y_mov rfl rfl) rfl rfl ?_
  refine hk_y (fun Y HY => y_nilck rfl rfl) rfl rfl ?_
  refine hk_y (fun Y HY => y_far ((R.below HY.base).blk) rfl rfl kfgrid0_10 rfl (rfl)) rfl rfl ?_
  refine hk_y (fun Y HY => y_ldr ((R.below HY.base).blk) rfl rfl kfgrid0_6 (rfl)) rfl rfl ?_
  refine hk_y (fun Y HY => y_sub rfl rfl rfl (wi (by omega))) rfl rfl ?_
  refine hk_y (fun Y HY => y_mov rfl rfl) rfl rfl ?_
  refine hk_y (fun Y HY => y_nilck rfl rfl) rfl rfl ?_
  refine hk_y (fun Y HY => y_far ((R.below HY.base).blk) rfl rfl kfgrid0_11 rfl (rfl)) rfl rfl ?_
  refine hk_y (fun Y HY => y_ldr ((R.below HY.base).blk) rfl rfl kfgrid0_6 (rfl)) rfl rfl ?_
  refine hk_y (fun Y HY => y_sub rfl rfl rfl (wi (by omega))) rfl rfl ?_
  refine hk_y (fun Y HY => y_build (places := [(0, 1), (1, 1), (2, 1), (3, 1)]) (parts := [(2, _), (3, _)]) (vs := [(2, _), (3, _)]) (cs := [.int _ _, .int _ _, .int _ _, .int _ _]) rfl Try.underlying24 (by kernel_rfl) kfgrid0_4 rfl ⟨rfl, rfl, trivial⟩ rfl) rfl rfl ?_
  refine hk_nil ?_
  intro w4 H5
  refine tv_op (op_st (i := 0) (vs := [.int _ _, .int _ _, .int _ _, .int _ _]) H5 rfl rfl rfl rfl rfl kfgrid0_8 rfl rfl rfl) rfl rfl ?_
  rintro _ w6 H7
  refine ⟨(H7.pick (m := []) [] rfl (by decide)), fun w8 e10 => ?_⟩
  have H9 := H7.ext e10
  refine tv_nil ?_
  refine fn_next ?_
  refine cw_ret ?_
  refine fn_ret1 rfl (⟨_, rfl, load_agg (cs := [_, _, _, _]) kfgrid0_9 rfl fun j v hv => by rw [Nat.zero_add]; exact H9.cell (i := 0) rfl hv⟩) ?_
  exact ⟨rfl, H9.base⟩

set_option maxRecDepth 100000 in
theorem gridSlab_any (g a h : Nat) (A : Option Addr) (cap : Nat) (xs : List Sb) (x y : Nat) (w : World) (G : GI a h xs) (Rb : Rd w (some ⟨g, 0, none⟩) [.int .i64 (a : Int), .int .i64 (h : Int), .int .i64 (across a : Int), .slice A xs.length cap]) (Rr : Rd w A (ptrs xs)) (hx : x < a) (hy : y < h) :
    Ret Try.prog 96 [pt (some ⟨g, 0, none⟩) 0, .int .i64 (x : Int), .int .i64 (y : Int)] w (fun v w' => v = .pointer (some ⟨(gs xs (tno a x y)).b, 0, none⟩) ∧ Below w.heap.size w w') := by
  have ha1 := G.a1; have ha2 := G.a2; have hh1 := G.h1; have hh2 := G.h2
  obtain ⟨ht, hxw, hyh⟩ := G.tile hx hy
  have hg := ptrs_get ht
  have hac : across a ≤ 64 := by unfold across; omega
  have htn : tno a x y = y / 16 * across a + x / 16 := rfl
  have hml : y / 16 * across a ≤ 64 * 64 := Nat.mul_le_mul (by omega) hac
  refine ret_enter Try.func96 rfl rfl rfl ?_
  have H0 := HS.start w
  refine cw_seq ?_
  refine cw_reg ?_
  refine ry (y_asg rfl rfl) rfl rfl ?_
  refine reg_nil ?_
  refine fn_next ?_
  refine cw_seq ?_
  refine cw_draw H0 [0, 1, 2, 3, 4, 5, 6, 7, 8, 9, 10, 11, 12, 13, 14, 15, 16] [] (fun X HX => HX) (by kernel_rfl) (by kernel_rfl) (by rfl) ?_
  simp only [pick, List.getElem?_cons_succ, List.getElem?_cons_zero]
  refine hk_y (fun Y HY => y_mov rfl rfl) rfl rfl ?_
  refine hk_y (fun Y HY => y_nilck rfl rfl) rfl rfl ?_
  refine hk_y (fun Y HY => y_far ((Rb.below HY.base)) rfl rfl kfgrid0_13 rfl (rfl)) rfl rfl ?_
  refine hk_y (fun Y HY => y_ldr ((Rb.below HY.base)) rfl rfl kfgrid0_14 (rfl)) rfl rfl ?_
  refine hk_y (fun Y HY => y_mov rfl rfl) rfl rfl ?_
  refine hk_y (fun Y HY => y_quo rfl rfl rfl (by decide) (quo16 (by omega))) rfl rfl ?_
  refine hk_y (fun Y HY => y_mov rfl rfl) rfl rfl ?_
  refine hk_y (fun Y HY => y_nilck rfl rfl) rfl rfl ?_
  refine hk_y (fun Y HY => y_far ((Rb.below HY.base)) rfl rfl kfgrid0_15 rfl (rfl)) rfl rfl ?_
  refine hk_y (fun Y HY => y_ldr ((Rb.below HY.base)) rfl rfl kfgrid0_6 (rfl)) rfl rfl ?_
  refine hk_y (fun Y HY => y_mul rfl rfl rfl (show _ = ((y / 16 * across a : Nat) : Int) from by rw [← Int.natCast_mul]; exact wi (by omega))) rfl rfl ?_
  refine hk_y (fun Y HY => y_mov rfl rfl) rfl rfl ?_
  refine hk_y (fun Y HY => y_quo rfl rfl rfl (by decide) (quo16 (by omega))) rfl rfl ?_
  refine hk_y (fun Y HY => y_add rfl rfl rfl (show _ = ((tno a x y : Nat) : Int) from by rw [htn, ← Int.natCast_add]; exact wi (by omega))) rfl rfl ?_
  refine hk_y (fun Y HY => y_iar ((Rr.below HY.base)) rfl rfl rfl kfgrid0_16 (rfl) (by omega) (Nat.mul_one _) (hg)) rfl rfl ?_
  refine hk_y (fun Y HY => y_ldr ((Rr.below HY.base)) rfl rfl kfgrid0_17 (hg)) rfl rfl ?_
  refine hk_y (fun Y HY => y_asg rfl rfl) rfl rfl ?_
  refine hk_nil ?_
  intro w1 H2
  refine tv_nil ?_
  refine fn_next ?_
  refine cw_ret ?_
  refine fn_ret1 rfl rfl ?_
  exact ⟨rfl, H2.base⟩

theorem at_tile {a h : Nat} {xs : List Sb} (G : GI a h xs) {x y : Nat} (hx : x < a) (hy : y < h) : atC (gs xs (tno a x y)).w (gs xs (tno a x y)).h ((x % 16 : Nat) : Int) ((y % 16 : Nat) : Int) = 0 ∧ atV (gs xs (tno a x y)).lst (gs xs (tno a x y)).w (gs xs (tno a x y)).h ((x % 16 : Nat) : Int) ((y % 16 : Nat) : Int) = gval xs a x y := by
  obtain ⟨ht, hxw, hyh⟩ := G.tile hx hy
  have hz : atC (gs xs (tno a x y)).w (gs xs (tno a x y)).h ((x % 16 : Nat) : Int) ((y % 16 : Nat) : Int) = 0 := by
    obtain ⟨s1, s2, s3, s4⟩ := G.size ht
    unfold atC withinC; simp only [insideB_not]
    rw [if_neg (by unfold wrap64; omega), if_neg (by omega), if_neg (by omega)]
  exact ⟨hz, by rw [atV_ok hz]; rfl⟩
theorem gat_nat {a h : Nat} {xs : List Sb} (G : GI a h xs) {x0 y0 x1 y1 : Int} (hw : withinC x0 y0 x1 y1 a h = 0) : ∃ p0 q0 p1 q1 : Nat, x0 = p0 ∧ y0 = q0 ∧ x1 = p1 ∧ y1 = q1 ∧ p0 ≤ p1 ∧ p1 < a ∧ q0 ≤ q1 ∧ q1 < h := by
  have h1 := G.a1; have h2 := G.a2; have h3 := G.h1; have h4 := G.h2
  have := within_zero (by omega) (by omega) (by omega) (by omega) hw
  exact ⟨x0.toNat, y0.toNat, x1.toNat, y1.toNat, by omega, by omega, by omega, by omega, by omega, by omega, by omega, by omega⟩
/-- what At gives of a list of values -/
def gatV (V : List Int) (a h : Nat) (x y : Int) : Int := if withinC x y x y a h = 0 then nth V (y * a + x).toNat else 0
theorem gatV_no {V : List Int} {a h : Nat} {x y : Int} (hw : ¬ withinC x y x y a h = 0) : gatV V a h x y = 0 := by unfold gatV; rw [if_neg hw]
theorem gatV_ok {V : List Int} {a h x y : Nat} (hw : withinC x y x y a h = 0) : gatV V a h x y = nth V (y * a + x) := by unfold gatV; rw [if_pos hw]; congr 1

set_option maxRecDepth 100000 in
theorem gridAt_no (g a h : Nat) (A : Option Addr) (cap : Nat) (xs : List Sb) (x y : Int) (w : World) (G : GI a h xs) (R : GR w g a h A cap xs) (hw : ¬ withinC x y x y a h = 0) :
    Ret Try.prog 45 [pt (some ⟨g, 0, none⟩) 0, .agg #[.int .i64 x, .int .i64 y]] w (fun v w' => v = .tuple #[.int .i64 (gatV (gV xs a h) a h x y), .int .i64 (withinC x y x y a h)] ∧ Below w.heap.size w w') := by
  have ha1 := G.a1; have ha2 := G.a2; have hh1 := G.h1; have hh2 := G.h2
  refine ret_enter Try.func45 rfl rfl rfl ?_
  have H0 := HS.start w
  refine cw_seq ?_
  refine cw_reg ?_
  refine reg_op (op_box (cs := [.int _ _, .int _ _]) H0 rfl rfl rfl) rfl rfl ?_
  rintro _ w2 ⟨b1, rfl, H3⟩
  refine ry (y_asg rfl rfl) rfl rfl ?_
  refine ry (y_asg rfl rfl) rfl rfl ?_
  refine reg_nil ?_
  refine fn_next ?_
  refine cw_seq ?_
  refine cw_seq ?_
  refine cw_reg ?_
  refine ry (y_mov rfl rfl) rfl rfl ?_
  refine ry (y_ldb (i := 0) (cs := [_, _]) H3 rfl rfl kfgrid0_3 rfl rfl) rfl rfl ?_
  refine reg_op (op_call (gridSpot_any x y _) rfl kfgrid0_18 ⟨rfl, trivial⟩) rfl rfl ?_
  rintro _ w5 ⟨rfl, e4⟩
  have H6 := H3.ext e4
  refine reg_op (op_call (gridCheck_any g a h A cap xs x y x y _ G (R.below H6.base)) rfl kfgrid0_19 ⟨rfl, rfl, trivial⟩) rfl rfl ?_
  rintro _ w8 ⟨rfl, e7⟩
  have H9 := H6.ext e7
  refine ry (y_asg rfl rfl) rfl rfl ?_
  refine reg_nil ?_
  refine fn_next ?_
  refine cw_seq ?_
  refine cw_reg ?_
  refine ry (y_mov rfl rfl) rfl rfl ?_
  refine ry (y_neq rfl rfl rfl) rfl rfl ?_
  refine reg_nil ?_
  refine fn_next ?_
  refine cw_condd rfl (fun h10 => ?_) (fun h10 => ?_)
  · skip
    refine cw_seq ?_
    refine cw_reg ?_
    refine ry (y_mov rfl rfl) rfl rfl ?_
    refine ry (y_asg rfl rfl) rfl rfl ?_
    refine ry (y_asg rfl rfl) rfl rfl ?_
    refine reg_nil ?_
    refine fn_next ?_
    refine cw_ret ?_
    refine fn_then_ret ?_
    refine fn_retn (vs := [_, _]) rfl ⟨rfl, rfl, trivial⟩ rfl ?_
    rw [gatV_no hw]
    exact ⟨rfl, H9.base⟩
  · exact absurd (Classical.not_not.1 h10) hw

set_option maxRecDepth 100000 in
theorem gridAt_ok (g a h : Nat) (A : Option Addr) (cap : Nat) (xs : List Sb) (x y : Int) (w : World) (G : GI a h xs) (R : GR w g a h A cap xs) (hw : withinC x y x y a h = 0) :
    Ret Try.prog 45 [pt (some ⟨g, 0, none⟩) 0, .agg #[.int .i64 x, .int .i64 y]] w (fun v w' => v = .tuple #[.int .i64 (gatV (gV xs a h) a h x y), .int .i64 (withinC x y x y a h)] ∧ Below w.heap.size w w') := by
  have ha1 := G.a1; have ha2 := G.a2; have hh1 := G.h1; have hh2 := G.h2
  obtain ⟨x, y, p1, q1, rfl, rfl, _, _, _, _, _, _⟩ := gat_nat G hw
  have hx : x < a := by omega
  have hy : y < h := by omega
  obtain ⟨ht, hxw, hyh⟩ := G.tile hx hy
  obtain ⟨z1, z2⟩ := at_tile G hx hy
  refine ret_enter Try.func45 rfl rfl rfl ?_
  have H0 := HS.start w
  refine cw_seq ?_
  refine cw_reg ?_
  refine reg_op (op_box (cs := [.int _ _, .int _ _]) H0 rfl rfl rfl) rfl rfl ?_
  rintro _ w2 ⟨b1, rfl, H3⟩
  refine ry (y_asg rfl rfl) rfl rfl ?_
  refine ry (y_asg rfl rfl) rfl rfl ?_
  refine reg_nil ?_
  refine fn_next ?_
  refine cw_seq ?_
  refine cw_seq ?_
  refine cw_reg ?_
  refine ry (y_mov rfl rfl) rfl rfl ?_
  refine ry (y_ldb (i := 0) (cs := [_, _]) H3 rfl rfl kfgrid0_3 rfl rfl) rfl rfl ?_
  refine reg_op (op_call (gridSpot_any x y _) rfl kfgrid0_18 ⟨rfl, trivial⟩) rfl rfl ?_
  rintro _ w5 ⟨rfl, e4⟩
  have H6 := H3.ext e4
  refine reg_op (op_call (gridCheck_any g a h A cap xs x y x y _ G (R.below H6.base)) rfl kfgrid0_19 ⟨rfl, rfl, trivial⟩) rfl rfl ?_
  rintro _ w8 ⟨rfl, e7⟩
  have H9 := H6.ext e7
  refine ry (y_asg rfl rfl) rfl rfl ?_
  refine reg_nil ?_
  refine fn_next ?_
  refine cw_seq ?_
  refine cw_reg ?_
  refine ry (y_mov rfl rfl) rfl rfl ?_
  refine ry (y_neq rfl rfl rfl) rfl rfl ?_
  refine reg_nil ?_
  refine fn_next ?_
  refine cw_condd rfl (fun h10 => ?_) (fun h10 => ?_)
  · exact absurd hw h10
  · skip
    refine cw_skip ?_
    refine fn_next ?_
    refine cw_seq ?_
    refine cw_draw H9 [0, 1, 2, 3, 4, 5, 6, 7, 8, 9, 10, 11, 12, 13, 14, 15] [] (fun X HX => HX) (by kernel_rfl) (by kernel_rfl) (by rfl) ?_
    simp only [pick, List.getElem?_cons_succ, List.getElem?_cons_zero]
    refine hk_y (fun Y HY => y_mov rfl rfl) rfl rfl ?_
    refine hk_y (fun Y HY => y_fa rfl rfl kfgrid0_5 rfl) rfl rfl ?_
    refine hk_y (fun Y HY => y_ld rfl rfl kfgrid0_6 (HY.cell (i := 0) rfl rfl)) rfl rfl ?_
    refine hk_y (fun Y HY => y_fa rfl rfl kfgrid0_7 rfl) rfl rfl ?_
    refine hk_y (fun Y HY => y_ld rfl rfl kfgrid0_6 (HY.cell (i := 0) rfl rfl)) rfl rfl ?_
    refine hk_q (qy_call (fun Y HY => gridSlab_any g a h A cap xs x y _ G (R.below HY.base).blk (R.below HY.base).row hx hy) rfl kfgrid0_20 ⟨rfl, rfl, rfl, trivial⟩) rfl rfl ?_
    refine hk_y (fun Y HY => y_fa rfl rfl kfgrid0_5 rfl) rfl rfl ?_
    refine hk_y (fun Y HY => y_ld rfl rfl kfgrid0_6 (HY.cell (i := 0) rfl rfl)) rfl rfl ?_
    refine hk_y (fun Y HY => y_fa rfl rfl kfgrid0_7 rfl) rfl rfl ?_
    refine hk_y (fun Y HY => y_ld rfl rfl kfgrid0_6 (HY.cell (i := 0) rfl rfl)) rfl rfl ?_
    refine hk_q (qy_call (fun Y HY => gridInner_any x y _) rfl kfgrid0_21 ⟨rfl, rfl, trivial⟩) rfl rfl ?_
    refine hk_q (qy_call (fun Y HY => slabAt_any (gs xs (tno a x y)).b (gs xs (tno a x y)).w (gs xs (tno a x y)).h (gs xs (tno a x y)).L ((x % 16 : Nat) : Int) ((y % 16 : Nat) : Int) _ (G.size ht) (G.ok _ ht) ((R.below HY.base).sl _ ht).2 ((R.below HY.base).sl _ ht).1) rfl kfgrid0_22 ⟨rfl, rfl, trivial⟩) rfl rfl ?_
    refine hk_y (fun Y HY => y_ext rfl rfl rfl) rfl rfl ?_
    refine hk_y (fun Y HY => y_ext rfl rfl rfl) rfl rfl ?_
    refine hk_y (fun Y HY => y_asg rfl rfl) rfl rfl ?_
    refine hk_y (fun Y HY => y_asg rfl rfl) rfl rfl ?_
    refine hk_nil ?_
    intro w11 H12
    refine tv_nil ?_
    refine fn_next ?_
    refine cw_ret ?_
    refine fn_retn (vs := [_, _]) rfl ⟨rfl, rfl, trivial⟩ rfl ?_
    rw [gatV_ok hw, gV_at hx hy, hw, ← z2, ← z1]
    exact ⟨rfl, H12.base⟩

theorem gridAt_any (g a h : Nat) (A : Option Addr) (cap : Nat) (xs : List Sb) (x y : Int) (w : World) (G : GI a h xs) (R : GR w g a h A cap xs) : Ret Try.prog 45 [pt (some ⟨g, 0, none⟩) 0, .agg #[.int .i64 x, .int .i64 y]] w (fun v w' => v = .tuple #[.int .i64 (gatV (gV xs a h) a h x y), .int .i64 (withinC x y x y a h)] ∧ Below w.heap.size w w') := by
  by_cases hw : withinC x y x y a h = 0
  · exact gridAt_ok g a h A cap xs x y w G R hw
  · exact gridAt_no g a h A cap xs x y w G R hw

def gflat (xs : List Sb) (i : Int) : Int × Bool := if 0 ≤ i ∧ i < xs.length then flS (gs xs i.toNat).lst ((gs xs i.toNat).w * (gs xs i.toNat).h) else (0, false)
theorem gflat_no {xs : List Sb} {i : Int} (h : ¬ (0 ≤ i ∧ i < xs.length)) : gflat xs i = (0, false) := by unfold gflat; rw [if_neg h]
theorem gflat_ok {xs : List Sb} {i : Nat} (h : i < xs.length) : gflat xs i = flS (gs xs i).lst ((gs xs i).w * (gs xs i).h) := by unfold gflat; rw [if_pos (by omega)]; rfl

set_option maxRecDepth 100000 in
theorem gridFlat_no (g a h : Nat) (A : Option Addr) (cap : Nat) (xs : List Sb) (i : Int) (w : World) (G : GI a h xs) (R : GR w g a h A cap xs) (hi : ¬ (0 ≤ i ∧ i < xs.length)) :
    Ret Try.prog 48 [pt (some ⟨g, 0, none⟩) 0, .int .i64 i] w (fun v w' => v = .tuple #[.int .i64 (gflat xs i).1, .bool (gflat xs i).2] ∧ Below w.heap.size w w') := by
  have ha1 := G.a1; have ha2 := G.a2; have hh1 := G.h1; have hh2 := G.h2
  refine ret_enter Try.func48 rfl rfl rfl ?_
  have H0 := HS.start w
  refine cw_seq ?_
  refine cw_reg ?_
  refine ry (y_asg rfl rfl) rfl rfl ?_
  refine ry (y_asg rfl rfl) rfl rfl ?_
  refine reg_nil ?_
  refine fn_next ?_
  refine cw_seq ?_
  refine cw_seq ?_
  refine cw_reg ?_
  refine ry (y_mov rfl rfl) rfl rfl ?_
  refine ry (y_peqlnil rfl Try.underlying74 rfl rfl) rfl rfl ?_
  refine ry (y_mov rfl rfl) rfl rfl ?_
  refine rgy (y_mov rfl rfl) rfl rfl rfl rfl ?_
  refine rgy (y_lss rfl rfl rfl) rfl rfl rfl rfl ?_
  refine ry (y_pick rfl rfl rfl) rfl rfl ?_
  refine ry (y_mov rfl rfl) rfl rfl ?_
  refine rg_splitd (d := 12) rfl (fun h1 => ?_) (fun h1 => ?_)
  · skip
    refine rg_off rfl rfl rfl rfl rfl ?_
    refine rg_off rfl rfl rfl rfl rfl ?_
    refine rg_off rfl rfl rfl rfl rfl ?_
    refine rg_off rfl rfl rfl rfl rfl ?_
    refine rg_off rfl rfl rfl rfl rfl ?_
    refine rg_off rfl rfl rfl rfl rfl ?_
    refine rg_off rfl rfl rfl rfl rfl ?_
    refine ry (y_pick rfl rfl rfl) rfl rfl ?_
    refine reg_nil ?_
    refine fn_next ?_
    refine cw_condt rfl ?_
    refine cw_seq ?_
    refine cw_reg ?_
    refine ry (y_asg rfl rfl) rfl rfl ?_
    refine ry (y_asg rfl rfl) rfl rfl ?_
    refine reg_nil ?_
    refine fn_next ?_
    refine cw_ret ?_
    refine fn_then_ret ?_
    refine fn_retn (vs := [_, _]) rfl ⟨rfl, rfl, trivial⟩ rfl ?_
    rw [gflat_no hi]
    exact ⟨rfl, H0.base⟩
  · skip
    refine rgy (y_mov rfl rfl) rfl rfl rfl rfl ?_
    refine rgy (y_mov rfl rfl) rfl rfl rfl rfl ?_
    refine rgy (y_nilck rfl rfl) rfl rfl rfl rfl ?_
    refine rgy (y_far ((R.below H0.base).blk) rfl rfl kfgrid0_13 rfl (rfl)) rfl rfl rfl rfl ?_
    refine rgy (y_ldr ((R.below H0.base).blk) rfl rfl kfgrid0_14 (rfl)) rfl rfl rfl rfl ?_
    refine rgy (y_len rfl Try.underlying138 rfl) rfl rfl rfl rfl ?_
    refine rgy (y_geq rfl rfl rfl) rfl rfl rfl rfl ?_
    refine ry (y_pick rfl rfl rfl) rfl rfl ?_
    refine reg_nil ?_
    refine fn_next ?_
    refine cw_condd rfl (fun h2 => ?_) (fun h2 => ?_)
    · skip
      refine cw_seq ?_
      refine cw_reg ?_
      refine ry (y_asg rfl rfl) rfl rfl ?_
      refine ry (y_asg rfl rfl) rfl rfl ?_
      refine reg_nil ?_
      refine fn_next ?_
      refine cw_ret ?_
      refine fn_then_ret ?_
      refine fn_retn (vs := [_, _]) rfl ⟨rfl, rfl, trivial⟩ rfl ?_
      rw [gflat_no hi]
      exact ⟨rfl, H0.base⟩
    · exfalso; omega

set_option maxRecDepth 100000 in
theorem gridFlat_ok (g a h : Nat) (A : Option Addr) (cap : Nat) (xs : List Sb) (i : Nat) (w : World) (G : GI a h xs) (R : GR w g a h A cap xs) (hi : i < xs.length) :
    Ret Try.prog 48 [pt (some ⟨g, 0, none⟩) 0, .int .i64 (i : Int)] w (fun v w' => v = .tuple #[.int .i64 (gflat xs i).1, .bool (gflat xs i).2] ∧ Below w.heap.size w w') := by
  have ha1 := G.a1; have ha2 := G.a2; have hh1 := G.h1; have hh2 := G.h2
  have hg := ptrs_get hi
  refine ret_enter Try.func48 rfl rfl rfl ?_
  have H0 := HS.start w
  refine cw_seq ?_
  refine cw_reg ?_
  refine ry (y_asg rfl rfl) rfl rfl ?_
  refine ry (y_asg rfl rfl) rfl rfl ?_
  refine reg_nil ?_
  refine fn_next ?_
  refine cw_seq ?_
  refine cw_seq ?_
  refine cw_reg ?_
  refine ry (y_mov rfl rfl) rfl rfl ?_
  refine ry (y_peqlnil rfl Try.underlying74 rfl rfl) rfl rfl ?_
  refine ry (y_mov rfl rfl) rfl rfl ?_
  refine rgy (y_mov rfl rfl) rfl rfl rfl rfl ?_
  refine rgy (y_lss rfl rfl rfl) rfl rfl rfl rfl ?_
  refine ry (y_pick rfl rfl rfl) rfl rfl ?_
  refine ry (y_mov rfl rfl) rfl rfl ?_
  refine rg_splitd (d := 12) rfl (fun h1 => ?_) (fun h1 => ?_)
  · exfalso; omega
  · skip
    refine rgy (y_mov rfl rfl) rfl rfl rfl rfl ?_
    refine rgy (y_mov rfl rfl) rfl rfl rfl rfl ?_
    refine rgy (y_nilck rfl rfl) rfl rfl rfl rfl ?_
    refine rgy (y_far ((R.below H0.base).blk) rfl rfl kfgrid0_13 rfl (rfl)) rfl rfl rfl rfl ?_
    refine rgy (y_ldr ((R.below H0.base).blk) rfl rfl kfgrid0_14 (rfl)) rfl rfl rfl rfl ?_
    refine rgy (y_len rfl Try.underlying138 rfl) rfl rfl rfl rfl ?_
    refine rgy (y_geq rfl rfl rfl) rfl rfl rfl rfl ?_
    refine ry (y_pick rfl rfl rfl) rfl rfl ?_
    refine reg_nil ?_
    refine fn_next ?_
    refine cw_condd rfl (fun h2 => ?_) (fun h2 => ?_)
    · exfalso; omega
    · skip
      refine cw_skip ?_
      refine fn_next ?_
      refine cw_seq ?_
      refine cw_reg ?_
      refine ry (y_mov rfl rfl) rfl rfl ?_
      refine ry (y_nilck rfl rfl) rfl rfl ?_
      refine ry (y_far ((R.below H0.base).blk) rfl rfl kfgrid0_13 rfl (rfl)) rfl rfl ?_
      refine ry (y_ldr ((R.below H0.base).blk) rfl rfl kfgrid0_14 (rfl)) rfl rfl ?_
      refine ry (y_mov rfl rfl) rfl rfl ?_
      refine ry (y_iar ((R.below H0.base).row) rfl rfl rfl kfgrid0_16 (rfl) (by omega) (Nat.mul_one _) (hg)) rfl rfl ?_
      refine ry (y_ldr ((R.below H0.base).row) rfl rfl kfgrid0_17 (hg)) rfl rfl ?_
      refine reg_op (op_call (slabFlat_any (gs xs i).b (gs xs i).w (gs xs i).h (gs xs i).L _ (G.size hi) (G.ok _ hi) ((R.below H0.base).sl _ hi).2 ((R.below H0.base).sl _ hi).1) rfl kfgrid0_23 ⟨rfl, trivial⟩) rfl rfl ?_
      rintro _ w4 ⟨rfl, e3⟩
      have H5 := H0.ext e3
      refine ry (y_ext rfl rfl rfl) rfl rfl ?_
      refine ry (y_ext rfl rfl rfl) rfl rfl ?_
      refine ry (y_asg rfl rfl) rfl rfl ?_
      refine ry (y_asg rfl rfl) rfl rfl ?_
      refine reg_nil ?_
      refine fn_next ?_
      refine cw_ret ?_
      refine fn_retn (vs := [_, _]) rfl ⟨rfl, rfl, trivial⟩ rfl ?_
      rw [gflat_ok hi]
      exact ⟨rfl, H5.base⟩

theorem gridFlat_any (g a h : Nat) (A : Option Addr) (cap : Nat) (xs : List Sb) (i : Int) (w : World) (G : GI a h xs) (R : GR w g a h A cap xs) : Ret Try.prog 48 [pt (some ⟨g, 0, none⟩) 0, .int .i64 i] w (fun v w' => v = .tuple #[.int .i64 (gflat xs i).1, .bool (gflat xs i).2] ∧ Below w.heap.size w w') := by
  by_cases hi : 0 ≤ i ∧ i < xs.length
  · obtain ⟨j, rfl⟩ : ∃ j : Nat, i = j := ⟨i.toNat, by omega⟩
    exact gridFlat_ok g a h A cap xs j w G R (by omega)
  · exact gridFlat_no g a h A cap xs i w G R hi

theorem gCheck (g a h : Nat) (V : List Int) (x0 y0 x1 y1 : Int) (w : World) (R : GRd w g a h V) : Ret Try.prog 94 [pt (some ⟨g, 0, none⟩) 0, .agg #[.int .i64 x0, .int .i64 y0, .int .i64 x1, .int .i64 y1]] w (fun v w' => v = .int .i64 (withinC x0 y0 x1 y1 a h) ∧ Below w.heap.size w w') := by
  obtain ⟨A, cap, xs, G, rfl, R⟩ := R
  exact gridCheck_any g a h A cap xs x0 y0 x1 y1 w G R

theorem gSize (g a h : Nat) (V : List Int) (w : World) (R : GRd w g a h V) : Ret Try.prog 69 [pt (some ⟨g, 0, none⟩) 0] w (fun v w' => v = .tuple #[.int .i64 (a : Int), .int .i64 (h : Int)] ∧ Below w.heap.size w w') := by
  obtain ⟨A, cap, xs, G, rfl, R⟩ := R
  exact gridSize_any g a h A cap xs w G R

theorem gAll (g a h : Nat) (V : List Int) (w : World) (R : GRd w g a h V) : Ret Try.prog 51 [pt (some ⟨g, 0, none⟩) 0] w (fun v w' => v = .agg #[.int .i64 0, .int .i64 0, .int .i64 ((a : Int) - 1), .int .i64 ((h : Int) - 1)] ∧ Below w.heap.size w w') := by
  obtain ⟨A, cap, xs, G, rfl, R⟩ := R
  exact gridAll_any g a h A cap xs w G R

theorem gAt (g a h : Nat) (V : List Int) (x y : Int) (w : World) (R : GRd w g a h V) : Ret Try.prog 45 [pt (some ⟨g, 0, none⟩) 0, .agg #[.int .i64 x, .int .i64 y]] w (fun v w' => v = .tuple #[.int .i64 (gatV V a h x y), .int .i64 (withinC x y x y a h)] ∧ Below w.heap.size w w') := by
  obtain ⟨A, cap, xs, G, rfl, R⟩ := R
  exact gridAt_any g a h A cap xs x y w G R

/-- what Flat gives of a list of values -/
def gflV (V : List Int) (a h : Nat) (i : Int) : Int × Bool := if 0 ≤ i ∧ i < (across h * across a : Nat) then flS (rvAll V a (16 * (i.toNat % across a)) (16 * (i.toNat / across a)) (tw a (i.toNat % across a)) (tw h (i.toNat / across a))) (tw a (i.toNat % across a) * tw h (i.toNat / across a)) else (0, false)
theorem gflat_V {a h : Nat} {xs : List Sb} (G : GI a h xs) (i : Int) : gflat xs i = gflV (gV xs a h) a h i := by
  unfold gflat gflV
  rw [← G.len]
  split
  · rename_i hi
    have ht : i.toNat < xs.length := by omega
    obtain ⟨e1, e2⟩ := G.wid _ ht
    rw [← e1, ← e2, tile_vals G ht]
  · rfl

theorem gFlat (g a h : Nat) (V : List Int) (i : Int) (w : World) (R : GRd w g a h V) : Ret Try.prog 48 [pt (some ⟨g, 0, none⟩) 0, .int .i64 i] w (fun v w' => v = .tuple #[.int .i64 (gflV V a h i).1, .bool (gflV V a h i).2] ∧ Below w.heap.size w w') := by
  obtain ⟨A, cap, xs, G, rfl, R⟩ := R
  rw [← gflat_V G i]
  exact gridFlat_any g a h A cap xs i w G R

end Go.Proofs.Ytkphmcaoioaglaa
