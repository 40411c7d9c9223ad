/- Layer 35: the law of rounds. -/
import Derived.Test.YtgkkbeomhkggjaaLaw35b
set_option linter.unusedVariables false
set_option linter.unusedSimpArgs false
namespace Go.Proofs.Ytgkkbeomhkggjaa
open Go Go.RowKit
theorem kflaw35c_1 : callB Try.prog 8 = true := by kernel_rfl
theorem kflaw35c_2 : callB Try.prog 9 = true := by kernel_rfl
theorem kflaw35c_3 : (Try.prog.info? 30).map (fun i => (i.size, i.zero.map Value.cells)) = some (6, some (List.toArray [(.int .i64 0), (.int .i64 0), (.int .i64 0), (.int .i64 0), (.slice none 0 0), (.slice none 0 0)])) := by kernel_rfl
theorem kflaw35c_4 : elB Try.prog 22 6 = true := by kernel_rfl
theorem kflaw35c_5 : fldB Try.prog 30 1 4 = true := by kernel_rfl
theorem kflaw35c_6 : oneB Try.prog 28 = true := by kernel_rfl
theorem kflaw35c_7 : fldB Try.prog 30 2 5 = true := by kernel_rfl
theorem kflaw35c_8 : aggB Try.prog 30 6 = true := by kernel_rfl
theorem kflaw35c_9 : callB Try.prog 10 = true := by kernel_rfl
theorem kflaw35c_10 : callB Try.prog 11 = true := by kernel_rfl
theorem kflaw35c_11 : (Try.prog.info? 30).map (fun i => (i.zero.map (·.cells.toList), i.size, i.bytes)) = some (some [(.int .i64 0), (.int .i64 0), (.int .i64 0), (.int .i64 0), (.slice none 0 0), (.slice none 0 0)], 6, 80) := by kernel_rfl
theorem kflaw35c_12 : callB Try.prog 12 = true := by kernel_rfl
theorem kflaw35c_13 : (Try.prog.info? 30).bind (fun i => i.zero.map Value.cells) = some (List.toArray [(.int .i64 0), (.int .i64 0), (.int .i64 0), (.int .i64 0), (.slice none 0 0), (.slice none 0 0)]) := by kernel_rfl
theorem kflaw35c_14 : szB Try.prog 30 6 = true := by kernel_rfl
theorem kflaw35c_15 : fldB Try.prog 30 0 0 = true := by kernel_rfl
theorem kflaw35c_16 : aggB Try.prog 27 4 = true := by kernel_rfl
theorem kflaw35c_17 : callB Try.prog 13 = true := by kernel_rfl
theorem kflaw35c_18 : elB Try.prog 28 1 = true := by kernel_rfl
theorem kflaw35c_19 : oneB Try.prog 2 = true := by kernel_rfl
theorem kflaw35c_20 : szB Try.prog 2 1 = true := by kernel_rfl
theorem kflaw35c_21 : callB Try.prog 14 = true := by kernel_rfl
theorem cw_know' {P : Program} {n : Nat} {Q : Exit → Act → World → Prop} {L : Fr} {w : World} {c : Code} {d : Nat} {v u : Value} (hv : lk L d = some v) (e : v = u) (k : Cw P n Q c ((d, u) :: L) w) : Cw P n Q c L w := fun a ha => k a (rep_know ha (by rw [hv, e]))
/-- the last forty -/
def lq (l : List Pt) : List Pt := l.drop (l.length - 40)
theorem lq_le {l : List Pt} (h : l.length ≤ 40) : lq l = l := by unfold lq; rw [show l.length - 40 = 0 by omega]; rfl
theorem lq_len {l : List Pt} : (lq l).length = min l.length 40 := by unfold lq; rw [List.length_drop]; omega
theorem lq_snoc {l : List Pt} {p : Pt} : mdDid (lq l) p = lq (l ++ [p]) := by
  unfold mdDid
  rw [lq_len]
  split
  · rename_i h
    rw [lq_le (by omega), lq_le (by simp; omega)]
  · rename_i h
    unfold lq
    rw [List.length_append, show [p].length = 1 from rfl, List.drop_append, List.drop_append, List.drop_drop, show l.length + 1 - 40 = l.length - 40 + 1 by omega, show l.length - 40 + 1 - l.length = 0 by omega, List.length_drop, show 1 - (l.length - (l.length - 40)) = 0 by omega]
theorem lq_mem {l : List Pt} {x : Pt} (h : x ∈ lq l) : x ∈ l := List.mem_of_mem_drop h
theorem lq_rd {w : World} {A : Option Addr} {cap : Nat} {l : List Pt} (h : Rd w A (ptCells l)) (hc : l.length ≤ cap) : Rd w (subA A cap (l.length - 40) 6) (ptCells (lq l)) := by
  have h1 := Rd.slice (size := 6) (lo := l.length - 40) (hi := l.length) h (by omega) hc
  rw [ptCells_take, ptCells_drop, List.take_length] at h1
  exact h1
def klN (l : List Pt) (p : Pt) : List Pt := if p.rightP ∧ 0 < p.o.n then l ++ [p] else l
theorem klN_t {l : List Pt} {p : Pt} (h1 : p.rightP) (h2 : ¬ p.emptyP) : klN l p = l ++ [p] := if_pos ⟨h1, Classical.byContradiction fun q => h2 ((right_empty h1).2 q)⟩
theorem klN_e {l : List Pt} {p : Pt} (h1 : p.rightP) (h2 : ¬ ¬ p.emptyP) : klN l p = l := if_neg fun q => (right_empty h1).1 (Classical.not_not.1 h2) q.2
theorem klN_n {l : List Pt} {p : Pt} (h1 : ¬ p.rightP) : klN l p = l := if_neg fun q => h1 q.1
theorem pDidL (w0 : World) (l : List Ob) (b : Nat) (kl : List Pt) (bl : Nat → Prop) (p : Pt) (w : World) (hp : ∀ X, HS w0 X l → p.ok X) (mo : p.o.n ≤ 16777216) (mq : p.q.n ≤ 16777216) (H0 : HS w0 w (pOb b ((lq kl).map Pt.pv) (lq kl).length bl :: l)) :
    Ret Try.prog 10 [.pointer (some ⟨b, 0, none⟩), .agg #[.int .i64 p.x0, .int .i64 p.y0, .int .i64 p.x1, .int .i64 p.y1, .slice p.o.A p.o.n p.o.c, .slice p.q.A p.q.n p.q.c]] w (fun z w' => ∃ bl', z = .int .i64 (if p.rightP then 0 else 13) ∧ HS w0 w' (pOb b ((lq (klN kl p)).map Pt.pv) (lq (klN kl p)).length bl' :: l)) := by
  have h1 := pDid_any w0 l b (lq kl) [] bl p w hp mo mq (by rw [List.append_nil, lq_len]; omega) (by rw [List.append_nil]; exact H0)
  have e : dN (lq kl) p ++ uN [] p = lq (klN kl p) := by
    unfold dN uN klN
    split
    · rw [List.append_nil, lq_snoc]
    · rw [List.append_nil]
  have e2 : dN (lq kl) p = lq (klN kl p) := by
    unfold dN klN
    split
    · rw [lq_snoc]
    · rfl
  rw [e, e2] at h1
  exact h1
/-- kept patches: well kept, of few values, as many old ones as new ones -/
def KpP (w : World) (l : List Pt) : Prop := ∀ x ∈ l, x.ok w ∧ x.o.n ≤ 300 ∧ x.q.n ≤ 300 ∧ x.o.n = x.q.n
theorem KpP_nil {w : World} : KpP w [] := fun x hx => by cases hx
theorem right_eq {p : Pt} (h : p.rightP) : p.o.n = p.q.n := by
  rcases h with h | h
  · unfold Pt.emptyP at h; omega
  · have h1 := h.2.1.1; have h2 := h.2.2.1; omega
theorem KpP.snoc {w : World} {l : List Pt} {p : Pt} (h : KpP w l) (h1 : p.ok w) (h2 : p.o.n ≤ 300) (h3 : p.q.n ≤ 300) (h4 : p.rightP) : KpP w (l ++ [p]) := fun x hx => (List.mem_append.1 hx).elim (h x) (fun q => by rw [List.mem_singleton.1 q]; exact ⟨h1, h2, h3, right_eq h4⟩)
theorem KpP.lq {w : World} {l : List Pt} (h : KpP w l) : KpP w (lq l) := fun x hx => h x (lq_mem hx)
theorem KpP.pv {w : World} {l : List Pt} (h : KpP w l) : ∀ v ∈ l.map Pt.pv, v.ok := fun v hv => by
  obtain ⟨x, hx, rfl⟩ := List.mem_map.1 hv
  exact (h x hx).1.pv (by have := (h x hx).2.1; omega) (by have := (h x hx).2.2.1; omega)
theorem pBackP (w0 : World) (l : List Ob) (b : Nat) (qs : List Pt) (d : Nat) (bl : Nat → Prop) (w : World) (hd : d + 1 ≤ qs.length) (hb : qs.length ≤ 40) (hv : ∀ v ∈ qs.map Pt.pv, v.ok) (H0 : HS w0 w (pOb b (qs.map Pt.pv) (d + 1) bl :: l)) :
    Ret Try.prog 12 [.pointer (some ⟨b, 0, none⟩)] w (fun z w' => ∃ A1 c1 A2 c2 bl', z = .tuple #[.agg #[.int .i64 (pI qs d).x0, .int .i64 (pI qs d).y0, .int .i64 (pI qs d).x1, .int .i64 (pI qs d).y1, .slice A1 (pI qs d).q.zs.length c1, .slice A2 (pI qs d).o.zs.length c2], .int .i64 0] ∧ HS w0 w' (Ob.row A1 (pI qs d).q.zs.length c1 (vi .i64 (pI qs d).q.zs) 2 1 :: Ob.row A2 (pI qs d).o.zs.length c2 (vi .i64 (pI qs d).o.zs) 2 1 :: pOb b (qs.map Pt.pv) d bl' :: l)) := by
  have h1 := pBack_ok w0 l b (qs.map Pt.pv) d bl w (by rw [List.length_map]; exact hd) (by rw [List.length_map]; exact hb) hv H0
  rw [vI_map (by omega)] at h1
  exact h1
theorem pAgainP (w0 : World) (l : List Ob) (b : Nat) (qs : List Pt) (d : Nat) (bl : Nat → Prop) (w : World) (hd : d + 1 ≤ qs.length) (hb : qs.length ≤ 40) (hv : ∀ v ∈ qs.map Pt.pv, v.ok) (H0 : HS w0 w (pOb b (qs.map Pt.pv) d bl :: l)) :
    Ret Try.prog 14 [.pointer (some ⟨b, 0, none⟩)] w (fun z w' => ∃ A1 c1 A2 c2 bl', z = .tuple #[.agg #[.int .i64 (pI qs d).x0, .int .i64 (pI qs d).y0, .int .i64 (pI qs d).x1, .int .i64 (pI qs d).y1, .slice A1 (pI qs d).o.zs.length c1, .slice A2 (pI qs d).q.zs.length c2], .int .i64 0] ∧ HS w0 w' (Ob.row A1 (pI qs d).o.zs.length c1 (vi .i64 (pI qs d).o.zs) 2 1 :: Ob.row A2 (pI qs d).q.zs.length c2 (vi .i64 (pI qs d).q.zs) 2 1 :: pOb b (qs.map Pt.pv) (d + 1) bl' :: l)) := by
  have h1 := pAgain_ok w0 l b (qs.map Pt.pv) d bl w (by rw [List.length_map]; exact hd) (by rw [List.length_map]; exact hb) hv H0
  rw [vI_map (by omega)] at h1
  exact h1

theorem refPSameL (x0 y0 x1 y1 : Int) (O Q : List Int) (n m : Nat) (A1 : Option Addr) (c1 : Nat) (B1 : Option Addr) (d1 : Nat) (A2 : Option Addr) (c2 : Nat) (B2 : Option Addr) (d2 : Nat) (w : World) (r1 : Rd w A1 (vi .i64 O)) (r2 : Rd w B1 (vi .i64 Q)) (r3 : Rd w A2 (vi .i64 O)) (r4 : Rd w B2 (vi .i64 Q)) (hn : O.length = n) (hm : Q.length = m) (bn : n ≤ 4000000) (bm : m ≤ 4000000) :
    Ret Try.prog 13 [.agg #[.int .i64 x0, .int .i64 y0, .int .i64 x1, .int .i64 y1, .slice A1 O.length c1, .slice B1 Q.length d1], .agg #[.int .i64 x0, .int .i64 y0, .int .i64 x1, .int .i64 y1, .slice A2 n c2, .slice B2 m d2]] w (fun z w' => z = .bool true ∧ Below w.heap.size w w') := by
  subst hn; subst hm
  exact refPSame x0 y0 x1 y1 O Q O.length Q.length A1 c1 B1 d1 A2 c2 B2 d2 w r1 r2 r3 r4 rfl rfl bn bm

set_option maxRecDepth 100000 in
set_option maxHeartbeats 4000000 in
theorem pastRounds_all (B : Option Addr) (n c0 : Nat) (ps : List Pt) (w : World) (hps : Rd w B (ptCells ps)) (hln : ps.length = n) (hall : ∀ x ∈ ps, x.ok w) :
    Ret Try.prog 3 [.slice B n c0] w (fun z w' => z = .bool true ∧ Below w.heap.size w w') := by
 refine ret_enter Try.func3 rfl rfl rfl ?_
 have H0 := HS.start w
 refine cw_seq ?_
 refine cw_reg ?_
 refine ry (y_asg rfl rfl) rfl rfl ?_
 refine reg_nil ?_
 refine fn_next ?_
 refine cw_seq ?_
 refine cw_seq ?_
 refine cw_reg ?_
 refine reg_op (op_call (pastAwake _) rfl kflaw35c_1 trivial) rfl rfl ?_
 rintro _ w2 ⟨rfl, e1⟩
 have H3 := H0.ext e1
 refine ry (y_not rfl rfl) rfl rfl ?_
 refine reg_nil ?_
 refine fn_next ?_
 refine cw_condf rfl ?_
 refine cw_skip ?_
 refine fn_next ?_
 refine cw_seq ?_
 refine cw_seq ?_
 refine cw_reg ?_
 refine ry (y_mov rfl rfl) rfl rfl ?_
 refine ry (y_len rfl Try.underlying22 rfl) rfl rfl ?_
 refine ry (y_gtr rfl rfl rfl) rfl rfl ?_
 refine reg_nil ?_
 refine fn_next ?_
 refine cw_condd rfl (fun hc96 => ?_) (fun hc96 => ?_)
 ·skip
  refine cw_seq ?_
  refine cw_reg ?_
  refine ry (y_asg rfl rfl) rfl rfl ?_
  refine reg_nil ?_
  refine fn_next ?_
  refine cw_ret ?_
  refine fn_then_ret ?_
  refine fn_ret1 rfl rfl ?_
  exact ⟨rfl, H3.base⟩
 ·skip
  refine cw_skip ?_
  refine fn_next ?_
  refine cw_seq ?_
  refine cw_reg ?_
  refine reg_op (op_call (pNew _) rfl kflaw35c_2 trivial) rfl rfl ?_
  rintro _ w6 ⟨b8, rfl, bl9, k5⟩
  have H7 := H3.call k5
  refine ry (y_asg rfl rfl) rfl rfl ?_
  refine reg_nil ?_
  refine fn_next ?_
  refine cw_seq ?_
  refine cw_reg ?_
  refine reg_op (op_lit (parts := []) (vs := []) (cs := []) H7 rfl Try.underlying22 kflaw35c_3 rfl trivial rfl rfl) rfl rfl ?_
  rintro _ w11 ⟨b10, rfl, H12⟩
  have H13 := H12.asrow (m := 0) (size := 6) rfl (by decide)
  refine ry (y_asg rfl rfl) rfl rfl ?_
  refine reg_nil ?_
  refine fn_next ?_
  refine cw_seq ?_
  refine cw_seq ?_
  refine cw_reg ?_
  refine ry (y_asg rfl rfl) rfl rfl ?_
  refine reg_nil ?_
  refine fn_next ?_
  refine cw_block ?_
  refine cw_loopJ [2, 4, 5, 28, 29, 30, 31, 32, 33, 34, 35, 36, 37, 38, 39, 40, 41, 42, 43, 44, 45, 46, 47, 48, 49, 50, 51, 52, 53, 54, 55, 56, 57, 58, 59, 60, 61, 62, 63, 64, 65, 66, 67, 68, 69, 70, 71] (fun M wl ml => ∃ (i : Nat) (kl : List Pt) (A' : Option Addr) (cap' : Nat) (bl' : Nat → Prop), M = [(5, .int .i64 (i : Int)), (4, .slice A' kl.length cap')] ∧ HS w wl [pOb b8 ((lq kl).map Pt.pv) (lq kl).length bl', Ob.row A' kl.length cap' (ptCells kl) 30 6] ∧ (i ≤ n) ∧ (KpP w kl) ∧ (kl.length ≤ i) ∧ ml = n - i) ⟨0, [], _, _, _, rfl, (H13.pick (m := [_, _]) [1, 0] rfl (by decide)), Nat.zero_le _, KpP_nil, Nat.le_refl _, rfl⟩ ⟨rfl, rfl, trivial⟩ ?_
  rintro M w14 m16 ⟨i, kl, A', cap', bl', rfl, H15, hp0, hkp, hki, rfl⟩
  refine cw_seq ?_
  refine cw_seq ?_
  refine cw_reg ?_
  refine ry (y_mov rfl rfl) rfl rfl ?_
  refine ry (y_mov rfl rfl) rfl rfl ?_
  refine ry (y_len rfl Try.underlying22 rfl) rfl rfl ?_
  refine ry (y_lss rfl rfl rfl) rfl rfl ?_
  refine reg_nil ?_
  refine fn_next ?_
  refine cw_condd rfl (fun h17 => ?_) (fun h17 => ?_)
  ·skip
   have pq : ∀ (j : Nat) (v : Value), ([.int .i64 (pI ps i).x0, .int .i64 (pI ps i).y0, .int .i64 (pI ps i).x1, .int .i64 (pI ps i).y1, .slice (pI ps i).o.A (pI ps i).o.n (pI ps i).o.c, .slice (pI ps i).q.A (pI ps i).q.n (pI ps i).q.c] : List Value)[j]? = some v → (ptCells ps)[i * 6 + j]? = some v := pt_get (pI_get (by omega))
   have hx := hall _ (pI_mem (l := ps) (i := i) (by omega))
   refine cw_skip ?_
   refine fn_next ?_
   refine cw_seq ?_
   refine cw_block ?_
   refine cw_seq ?_
   refine cw_seq ?_
   refine cw_reg ?_
   refine ry (y_mov rfl rfl) rfl rfl ?_
   refine ry (y_mov rfl rfl) rfl rfl ?_
   refine ry (y_iar (i := i) ((hps.below H15.base)) rfl rfl rfl kflaw35c_4 (rfl) (by omega) (rfl) (pq 0 _ rfl)) rfl rfl ?_
   refine ry (y_far ((hps.below H15.base)) rfl rfl kflaw35c_5 rfl (pq 0 _ rfl)) rfl rfl ?_
   refine ry (y_ldr ((hps.below H15.base)) rfl rfl kflaw35c_6 (pq 4 _ rfl)) rfl rfl ?_
   refine ry (y_len rfl Try.underlying28 rfl) rfl rfl ?_
   refine ry (y_gtr rfl rfl rfl) rfl rfl ?_
   refine ry (y_mov rfl rfl) rfl rfl ?_
   refine rg_splitd (d := 41) rfl (fun h18 => ?_) (fun h18 => ?_)
   ·skip
    have c41 := h18
    refine rg_off rfl rfl rfl rfl rfl ?_
    refine rg_off rfl rfl rfl rfl rfl ?_
    refine rg_off rfl rfl rfl rfl rfl ?_
    refine rg_off rfl rfl rfl rfl rfl ?_
    refine rg_off rfl rfl rfl rfl rfl ?_
    refine rg_off rfl rfl rfl rfl rfl ?_
    refine rg_off rfl rfl rfl rfl rfl ?_
    refine ry (y_pick rfl rfl rfl) rfl rfl ?_
    refine reg_nil ?_
    refine fn_next ?_
    refine cw_condt rfl ?_
    refine cw_seq ?_
    refine cw_reg ?_
    refine ry (y_asg rfl rfl) rfl rfl ?_
    refine reg_nil ?_
    refine fn_next ?_
    refine cw_ret ?_
    refine fn_then_ret (fn_block_ret (fn_then_ret (fn_then_ret (fn_block_ret (fn_then_ret ?_)))))
    refine fn_ret1 rfl rfl ?_
    exact ⟨rfl, H15.base⟩
   ·skip
    have c41 := h18
    refine rgy (y_mov rfl rfl) rfl rfl rfl rfl ?_
    refine rgy (y_mov rfl rfl) rfl rfl rfl rfl ?_
    refine rgy (y_iar (i := i) ((hps.below H15.base)) rfl rfl rfl kflaw35c_4 (rfl) (by omega) (rfl) (pq 0 _ rfl)) rfl rfl rfl rfl ?_
    refine rgy (y_far ((hps.below H15.base)) rfl rfl kflaw35c_7 rfl (pq 0 _ rfl)) rfl rfl rfl rfl ?_
    refine rgy (y_ldr ((hps.below H15.base)) rfl rfl kflaw35c_6 (pq 5 _ rfl)) rfl rfl rfl rfl ?_
    refine rgy (y_len rfl Try.underlying28 rfl) rfl rfl rfl rfl ?_
    refine rgy (y_gtr rfl rfl rfl) rfl rfl rfl rfl ?_
    refine ry (y_pick rfl rfl rfl) rfl rfl ?_
    refine reg_nil ?_
    refine fn_next ?_
    refine cw_condd rfl (fun hc102 => ?_) (fun hc102 => ?_)
    ·skip
     refine cw_seq ?_
     refine cw_reg ?_
     refine ry (y_asg rfl rfl) rfl rfl ?_
     refine reg_nil ?_
     refine fn_next ?_
     refine cw_ret ?_
     refine fn_then_ret (fn_block_ret (fn_then_ret (fn_then_ret (fn_block_ret (fn_then_ret ?_)))))
     refine fn_ret1 rfl rfl ?_
     exact ⟨rfl, H15.base⟩
    ·skip
     refine cw_skip ?_
     refine fn_next ?_
     refine cw_seq ?_
     refine cw_reg ?_
     refine ry (y_mov rfl rfl) rfl rfl ?_
     refine ry (y_mov rfl rfl) rfl rfl ?_
     refine ry (y_mov rfl rfl) rfl rfl ?_
     refine ry (y_iar (i := i) ((hps.below H15.base)) rfl rfl rfl kflaw35c_4 (rfl) (by omega) (rfl) (pq 0 _ rfl)) rfl rfl ?_
     refine ry (y_ldra (cs := [_, _, _, _, _, _]) ((hps.below H15.base)) rfl rfl kflaw35c_8 rfl (by decide) (fun j v hv => pq j v hv)) rfl rfl ?_
     refine reg_op (op_call (pDidL w _ b8 kl bl' (pI ps i) _ (fun X HX => hx.below HX.base) (by omega) (by omega) H15) rfl kflaw35c_9 ⟨rfl, rfl, trivial⟩) rfl rfl ?_
     rintro _ w21 ⟨bl22, rfl, H20⟩
     refine ry (y_eql rfl rfl rfl) rfl rfl ?_
     refine ry (y_mov rfl rfl) rfl rfl ?_
     refine rg_splitd (d := 57) rfl (fun h23 => ?_) (fun h23 => ?_)
     ·skip
      have c57 : (pI ps i).rightP := Classical.byContradiction fun q => by rw [if_neg q] at h23; omega
      refine rgy (y_mov rfl rfl) rfl rfl rfl rfl ?_
      refine rgy (y_mov rfl rfl) rfl rfl rfl rfl ?_
      refine rgy (y_iar (i := i) ((hps.below H20.base)) rfl rfl rfl kflaw35c_4 (rfl) (by omega) (rfl) (pq 0 _ rfl)) rfl rfl rfl rfl ?_
      refine rgy (y_ldra (cs := [_, _, _, _, _, _]) ((hps.below H20.base)) rfl rfl kflaw35c_8 rfl (by decide) (fun j v hv => pq j v hv)) rfl rfl rfl rfl ?_
      refine rg_on rfl rfl rfl (op_call (refPEmpty (pI ps i) _ (hx.below H20.base) (by omega) (by omega)) rfl kflaw35c_10 ⟨rfl, trivial⟩) rfl ?_
      rintro _ w25 ⟨rfl, e24⟩
      have H26 := H20.ext e24
      refine rgy (y_notd rfl rfl) rfl rfl rfl rfl ?_
      refine ry (y_pick rfl rfl rfl) rfl rfl ?_
      refine reg_nil ?_
      refine fn_next ?_
      refine cw_condd rfl (fun h27 => ?_) (fun h27 => ?_)
      ·skip
       have hkn : klN kl (pI ps i) = kl ++ [(pI ps i)] := klN_t c57 h27
       refine cw_reg ?_
       refine ry (y_mov rfl rfl) rfl rfl ?_
       refine ry (y_mov rfl rfl) rfl rfl ?_
       refine ry (y_mov rfl rfl) rfl rfl ?_
       refine ry (y_iar (i := i) ((hps.below H26.base)) rfl rfl rfl kflaw35c_4 (rfl) (by omega) (rfl) (pq 0 _ rfl)) rfl rfl ?_
       refine ry (y_ldra (cs := [_, _, _, _, _, _]) ((hps.below H26.base)) rfl rfl kflaw35c_8 rfl (by decide) (fun j v hv => pq j v hv)) rfl rfl ?_
       refine reg_op (op_litL (parts := [(0, _)]) (vs := [(0, _)]) (cs := [.int _ _, .int _ _, .int _ _, .int _ _, .slice _ _ _, .slice _ _ _]) [(0, [_, _, _, _, _, _])] H26 rfl Try.underlying22 kflaw35c_3 rfl ⟨rfl, trivial⟩ rfl rfl rfl) rfl rfl ?_
       rintro _ w29 ⟨b28, rfl, H30⟩
       have H31 := H30.asrow (m := 1) (size := 6) rfl (by decide)
       refine reg_op (op_app (i := 2) (k := kl.length) (m := 1) H31 rfl rfl rfl rfl (H31.rd (i := 0) rfl) (rfl) (rfl) Try.underlying22 kflaw35c_11 rfl rfl (by unfold maxLen; omega) (by omega)) rfl rfl ?_
       rintro _ w34 ⟨A32, c33, rfl, H35⟩
       refine ry (y_asg rfl rfl) rfl rfl ?_
       refine reg_nil ?_
       refine fn_block ?_
       refine fn_next ?_
       refine cw_reg ?_
       refine ry (y_mov rfl rfl) rfl rfl ?_
       refine ry (y_add rfl rfl rfl (wi (by omega))) rfl rfl ?_
       refine ry (y_asg rfl rfl) rfl rfl ?_
       refine reg_nil ?_
       rw [hkn, show ptCells kl ++ [.int .i64 (pI ps i).x0, .int .i64 (pI ps i).y0, .int .i64 (pI ps i).x1, .int .i64 (pI ps i).y1, .slice (pI ps i).o.A (pI ps i).o.n (pI ps i).o.c, .slice (pI ps i).q.A (pI ps i).q.n (pI ps i).q.c] = ptCells (kl ++ [(pI ps i)]) from ptCells_snoc (p := (pI ps i)), show kl.length + 1 = (kl ++ [(pI ps i)]).length from by simp] at H35
       refine fn_roundJ ⟨i + 1, kl ++ [(pI ps i)], _, _, _, rfl, (H35.pick (m := [_, _]) [1, 2] rfl (by decide)), by omega, hkp.snoc hx (by omega) (by omega) c57, by rw [List.length_append]; show kl.length + 1 ≤ i + 1; omega, rfl⟩ ⟨rfl, by rw [List.length_append]; rfl, trivial⟩ (by omega) (by repeat (first | exact kp_refl | refine kp_app rfl rfl ?_ | refine kp_cons rfl ?_)) rfl
      ·skip
       have hkn : klN kl (pI ps i) = kl := klN_e c57 h27
       refine cw_skip ?_
       refine fn_block ?_
       refine fn_next ?_
       refine cw_reg ?_
       refine ry (y_mov rfl rfl) rfl rfl ?_
       refine ry (y_add rfl rfl rfl (wi (by omega))) rfl rfl ?_
       refine ry (y_asg rfl rfl) rfl rfl ?_
       refine reg_nil ?_
       rw [hkn] at H26
       refine fn_roundJ ⟨i + 1, kl, _, _, _, rfl, H26, by omega, hkp, by omega, rfl⟩ ⟨rfl, rfl, trivial⟩ (by omega) (by repeat (first | exact kp_refl | refine kp_app rfl rfl ?_ | refine kp_cons rfl ?_)) rfl
     ·skip
      have hkn : klN kl (pI ps i) = kl := klN_n (fun q => h23 (if_pos q))
      refine rg_off rfl rfl rfl rfl rfl ?_
      refine rg_off rfl rfl rfl rfl rfl ?_
      refine rg_off rfl rfl rfl rfl rfl ?_
      refine rg_off rfl rfl rfl rfl rfl ?_
      refine rg_off rfl rfl rfl rfl rfl ?_
      refine rg_off rfl rfl rfl rfl rfl ?_
      refine ry (y_pick rfl rfl rfl) rfl rfl ?_
      refine reg_nil ?_
      refine fn_next ?_
      refine cw_condf rfl ?_
      refine cw_skip ?_
      refine fn_block ?_
      refine fn_next ?_
      refine cw_reg ?_
      refine ry (y_mov rfl rfl) rfl rfl ?_
      refine ry (y_add rfl rfl rfl (wi (by omega))) rfl rfl ?_
      refine ry (y_asg rfl rfl) rfl rfl ?_
      refine reg_nil ?_
      rw [hkn] at H20
      refine fn_roundJ ⟨i + 1, kl, _, _, _, rfl, H20, by omega, hkp, by omega, rfl⟩ ⟨rfl, rfl, trivial⟩ (by omega) (by repeat (first | exact kp_refl | refine kp_app rfl rfl ?_ | refine kp_cons rfl ?_)) rfl
  ·skip
   obtain rfl : i = n := by omega
   refine cw_exit ?_
   refine fn_then_exit (fn_then_exit (fn_block_exit ?_))
   refine fn_next ?_
   refine cw_seq ?_
   refine cw_seq ?_
   refine cw_reg ?_
   refine ry (y_mov rfl rfl) rfl rfl ?_
   refine ry (y_len rfl Try.underlying22 rfl) rfl rfl ?_
   refine ry (y_gtr rfl rfl rfl) rfl rfl ?_
   refine reg_nil ?_
   refine fn_next ?_
   refine cw_condd rfl (fun h36 => ?_) (fun h36 => ?_)
   ·skip
    have hk40 : 40 < kl.length := by omega
    refine cw_reg ?_
    refine ry (y_mov rfl rfl) rfl rfl ?_
    refine ry (y_mov rfl rfl) rfl rfl ?_
    refine ry (y_len rfl Try.underlying22 rfl) rfl rfl ?_
    refine ry (y_sub rfl rfl rfl (wi (by omega))) rfl rfl ?_
    have hkc := (H15.len (i := 1) rfl).2.1
    have hm : kl.length - (kl.length - 40) = (lq kl).length := by rw [lq_len]; omega
    refine ry (y_sl (lo := kl.length - 40) rfl rfl rfl kflaw35c_4 (by omega) (by omega)) rfl rfl ?_
    refine ry (y_asg rfl rfl) rfl rfl ?_
    refine reg_nil ?_
    refine fn_next ?_
    refine cw_seq ?_
    refine cw_seq ?_
    refine cw_reg ?_
    refine ry (y_mov rfl rfl) rfl rfl ?_
    refine ry (y_len rfl Try.underlying22 rfl) rfl rfl ?_
    refine ry (y_sub rfl rfl rfl (wi (by omega))) rfl rfl ?_
    refine ry (y_asg rfl rfl) rfl rfl ?_
    refine reg_nil ?_
    refine fn_next ?_
    refine cw_block ?_
    refine cw_loopJ [2, 6, 7, 8, 9, 83, 84, 85, 86, 87, 88, 89, 90, 91, 92, 93, 94, 95, 96, 97, 98, 99, 100, 101, 102, 103, 104, 105, 106, 107, 108, 109, 110, 111, 112, 113, 114, 115, 116, 117, 118, 119, 120, 121, 122, 123, 124, 125, 126, 127, 128, 129, 130, 131, 132, 133, 134, 135, 136, 137, 138, 139, 140, 141] (fun M wl ml => ∃ (c : Nat) (bl2 : Nat → Prop), M = [(6, .int .i64 ((c : Int) - 1))] ∧ HS w wl [pOb b8 ((lq kl).map Pt.pv) c bl2, Ob.row A' kl.length cap' (ptCells kl) 30 6] ∧ (c ≤ (lq kl).length) ∧ ml = c + 1) ⟨(lq kl).length, _, rfl, H15, Nat.le_refl _, rfl⟩ ⟨by rw [← hm]; rfl, trivial⟩ ?_
    rintro M w37 m39 ⟨c, bl2, rfl, H38, hcm, rfl⟩
    refine cw_seq ?_
    refine cw_seq ?_
    refine cw_reg ?_
    refine ry (y_mov rfl rfl) rfl rfl ?_
    refine ry (y_geq rfl rfl rfl) rfl rfl ?_
    refine reg_nil ?_
    refine fn_next ?_
    refine cw_condd rfl (fun h40 => ?_) (fun h40 => ?_)
    ·skip
     obtain ⟨i, rfl⟩ : ∃ i, c = i + 1 := ⟨c - 1, by omega⟩
     refine cw_know' (d := 6) (u := .int .i64 (i : Int)) rfl (by rw [show (((i + 1 : Nat) : Int) - 1) = (i : Int) by omega]) ?_
     have hxk := hkp.lq _ (pI_mem (l := lq kl) (i := i) (by omega))
     have ho1 := hxk.1.ho.len
     have ho2 := hxk.1.hq.len
     have pq : ∀ (j : Nat) (v : Value), ([.int .i64 (pI (lq kl) i).x0, .int .i64 (pI (lq kl) i).y0, .int .i64 (pI (lq kl) i).x1, .int .i64 (pI (lq kl) i).y1, .slice (pI (lq kl) i).o.A (pI (lq kl) i).o.n (pI (lq kl) i).o.c, .slice (pI (lq kl) i).q.A (pI (lq kl) i).q.n (pI (lq kl) i).q.c] : List Value)[j]? = some v → (ptCells (lq kl))[i * 6 + j]? = some v := pt_get (pI_get (by omega))
     have pqr : ∀ (j : Nat) (v : Value), ([.int .i64 (pI (lq kl) i).x0, .int .i64 (pI (lq kl) i).y0, .int .i64 (pI (lq kl) i).x1, .int .i64 (pI (lq kl) i).y1] : List Value)[j]? = some v → (ptCells (lq kl))[i * 6 + j]? = some v := fun j v hj => pq j v (by rcases j with _ | _ | _ | _ | j <;> first | exact hj | simp at hj)
     refine cw_skip ?_
     refine fn_next ?_
     refine cw_seq ?_
     refine cw_block ?_
     refine cw_seq ?_
     refine cw_reg ?_
     refine ry (y_mov rfl rfl) rfl rfl ?_
     refine reg_op (op_call (pBackP w _ b8 (lq kl) i bl2 _ (by omega) (by rw [lq_len]; omega) hkp.lq.pv H38) rfl kflaw35c_12 ⟨rfl, trivial⟩) rfl rfl ?_
     rintro _ w42 ⟨A43, c44, B45, e46, bl47, rfl, H41⟩
     refine ry (y_mov rfl rfl) rfl rfl ?_
     refine ry (y_ext rfl rfl rfl) rfl rfl ?_
     refine ry (y_ext rfl rfl rfl) rfl rfl ?_
     refine reg_op (op_alloc H41 rfl kflaw35c_13) rfl rfl ?_
     rintro _ w49 ⟨b48, rfl, H50⟩
     refine reg_op (op_st (i := 0) (vs := [.int _ _, .int _ _, .int _ _, .int _ _, .slice _ _ _, .slice _ _ _]) H50 rfl rfl rfl rfl rfl kflaw35c_14 rfl rfl rfl) rfl rfl ?_
     rintro _ w51 H52
     refine ry (y_asg rfl rfl) rfl rfl ?_
     refine reg_nil ?_
     refine fn_next ?_
     refine cw_seq ?_
     refine cw_seq ?_
     refine cw_draw H52 [0, 1, 2, 3, 4, 5, 6, 7, 8, 9, 10, 11, 12, 13, 14, 15, 16, 17, 18, 19, 20, 21, 22] [] (fun X HX => HX) (by kernel_rfl) (by kernel_rfl) (by rfl) ?_
     simp only [pick, List.getElem?_cons_succ, List.getElem?_cons_zero]
     refine hk_y (fun Y HY => y_mov rfl rfl) rfl rfl ?_
     refine hk_y (fun Y HY => y_neq rfl rfl rfl) rfl rfl ?_
     refine hk_y (fun Y HY => y_mov rfl rfl) rfl rfl ?_
     refine hk_on (qy_yd fun Y HY => y_ldb (i := 0) (cs := [_, _, _, _, _, _]) HY rfl rfl kflaw35c_8 rfl rfl) rfl rfl rfl rfl ?_
     refine hk_on (qy_yd fun Y HY => y_mov rfl rfl) rfl rfl rfl rfl ?_
     refine hk_on (qy_yd fun Y HY => y_mov rfl rfl) rfl rfl rfl rfl ?_
     refine hk_on (qy_yd fun Y HY => y_iar (i := i) (lq_rd (HY.rd (i := 4) rfl) hkc) rfl rfl rfl kflaw35c_4 (rfl) (by omega) (rfl) (pq 0 _ rfl)) rfl rfl rfl rfl ?_
     refine hk_on (qy_yd fun Y HY => y_far (lq_rd (HY.rd (i := 4) rfl) hkc) rfl rfl kflaw35c_15 rfl (pq 0 _ rfl)) rfl rfl rfl rfl ?_
     refine hk_on (qy_yd fun Y HY => y_ldra (cs := [_, _, _, _]) (lq_rd (HY.rd (i := 4) rfl) hkc) rfl rfl kflaw35c_16 rfl (by decide) (fun j v hv => pqr j v hv)) rfl rfl rfl rfl ?_
     refine hk_on (qy_yd fun Y HY => y_mov rfl rfl) rfl rfl rfl rfl ?_
     refine hk_on (qy_yd fun Y HY => y_mov rfl rfl) rfl rfl rfl rfl ?_
     refine hk_on (qy_yd fun Y HY => y_iar (i := i) (lq_rd (HY.rd (i := 4) rfl) hkc) rfl rfl rfl kflaw35c_4 (rfl) (by omega) (rfl) (pq 0 _ rfl)) rfl rfl rfl rfl ?_
     refine hk_on (qy_yd fun Y HY => y_far (lq_rd (HY.rd (i := 4) rfl) hkc) rfl rfl kflaw35c_7 rfl (pq 0 _ rfl)) rfl rfl rfl rfl ?_
     refine hk_on (qy_yd fun Y HY => y_ldr (lq_rd (HY.rd (i := 4) rfl) hkc) rfl rfl kflaw35c_6 (pq 5 _ rfl)) rfl rfl rfl rfl ?_
     refine hk_on (qy_yd fun Y HY => y_mov rfl rfl) rfl rfl rfl rfl ?_
     refine hk_on (qy_yd fun Y HY => y_mov rfl rfl) rfl rfl rfl rfl ?_
     refine hk_on (qy_yd fun Y HY => y_iar (i := i) (lq_rd (HY.rd (i := 4) rfl) hkc) rfl rfl rfl kflaw35c_4 (rfl) (by omega) (rfl) (pq 0 _ rfl)) rfl rfl rfl rfl ?_
     refine hk_on (qy_yd fun Y HY => y_far (lq_rd (HY.rd (i := 4) rfl) hkc) rfl rfl kflaw35c_5 rfl (pq 0 _ rfl)) rfl rfl rfl rfl ?_
     refine hk_on (qy_yd fun Y HY => y_ldr (lq_rd (HY.rd (i := 4) rfl) hkc) rfl rfl kflaw35c_6 (pq 4 _ rfl)) rfl rfl rfl rfl ?_
     refine hk_on (qy_yd fun Y HY => y_buildL (places := [(0, 4), (4, 1), (5, 1)]) (parts := [(0, _), (1, _), (2, _)]) (vs := [(0, _), (1, _), (2, _)]) (cs := [.int _ _, .int _ _, .int _ _, .int _ _, .slice _ _ _, .slice _ _ _]) [(0, [_, _, _, _]), (1, [_]), (2, [_])] rfl Try.underlying30 (by kernel_rfl) kflaw35c_13 rfl ⟨rfl, rfl, rfl, trivial⟩ rfl rfl) rfl rfl rfl rfl ?_
     refine hk_on (qy_call (fun Y HY => refPSameL (pI (lq kl) i).x0 (pI (lq kl) i).y0 (pI (lq kl) i).x1 (pI (lq kl) i).y1 (pI (lq kl) i).q.zs (pI (lq kl) i).o.zs _ _ _ _ _ _ _ _ _ _ _ (HY.rd (i := 1) rfl) (HY.rd (i := 2) rfl) ((hxk.1.below HY.base).hq.rd) ((hxk.1.below HY.base).ho.rd) ho2 ho1 (by omega) (by omega)) rfl kflaw35c_17 ⟨rfl, rfl, trivial⟩) rfl rfl rfl rfl ?_
     refine hk_on (qy_yd fun Y HY => y_not rfl rfl) rfl rfl rfl rfl ?_
     refine hk_y (fun Y HY => y_pick rfl rfl rfl) rfl rfl ?_
     refine hk_nil ?_
     intro w53 H54
     refine tv_nil ?_
     refine fn_next ?_
     refine cw_condf rfl ?_
     refine cw_skip ?_
     refine fn_next ?_
     refine cw_seq ?_
     refine cw_reg ?_
     refine ry (y_asg rfl rfl) rfl rfl ?_
     refine reg_nil ?_
     refine fn_next ?_
     refine cw_block ?_
     refine cw_loopJ [9, 115, 116, 117, 118, 119, 120, 121, 122, 123, 124, 125, 126, 127, 128, 129, 130, 131, 132, 133, 134, 135, 136, 137, 138, 139, 140, 141] (fun M wl ml => ∃ (k : Nat) (Z1 Z2 : List Int), M = [(9, .int .i64 (k : Int))] ∧ HS w wl [Ob.row A43 (pI (lq kl) i).q.zs.length c44 (vi .i64 Z1) 2 1, Ob.row B45 (pI (lq kl) i).o.zs.length e46 (vi .i64 Z2) 2 1, pOb b8 ((lq kl).map Pt.pv) i bl47, Ob.row A' kl.length cap' (ptCells kl) 30 6, Ob.blk b48 [.int .i64 (pI (lq kl) i).x0, .int .i64 (pI (lq kl) i).y0, .int .i64 (pI (lq kl) i).x1, .int .i64 (pI (lq kl) i).y1, .slice A43 (pI (lq kl) i).q.zs.length c44, .slice B45 (pI (lq kl) i).o.zs.length e46] 30] ∧ (k ≤ (pI (lq kl) i).q.zs.length) ∧ (Z1.length = (pI (lq kl) i).q.zs.length) ∧ (Z2.length = (pI (lq kl) i).o.zs.length) ∧ ml = 301 - k) ⟨0, _, _, rfl, (H54.pick (m := [_, _, _, _, _]) [1, 2, 3, 4, 0] rfl (by decide)), Nat.zero_le _, rfl, rfl, rfl⟩ ⟨rfl, trivial⟩ ?_
     rintro M w55 m57 ⟨k, Z1, Z2, rfl, H56, hk, hz1, hz2, rfl⟩
     refine cw_seq ?_
     refine cw_seq ?_
     refine cw_reg ?_
     refine ry (y_mov rfl rfl) rfl rfl ?_
     refine ry (y_fa rfl rfl kflaw35c_5 rfl) rfl rfl ?_
     refine ry (y_ld rfl rfl kflaw35c_6 (H56.cell (i := 4) rfl rfl)) rfl rfl ?_
     refine ry (y_len rfl Try.underlying28 rfl) rfl rfl ?_
     refine ry (y_lss rfl rfl rfl) rfl rfl ?_
     refine reg_nil ?_
     refine fn_next ?_
     refine cw_condd rfl (fun h58 => ?_) (fun h58 => ?_)
     ·skip
      have gz1 := vi_get (k := .i64) (zs := Z1) (i := k) (by omega)
      have gz2 := vi_get (k := .i64) (zs := Z2) (i := k) (by omega)
      have hA1 := H56.addr (i := 0) rfl (by omega)
      have hA2 := H56.addr (i := 1) rfl (by omega)
      refine cw_skip ?_
      refine fn_next ?_
      refine cw_seq ?_
      refine cw_block ?_
      refine cw_seq ?_
      refine cw_draw H56 [0, 1, 2, 3, 4, 5, 6] [7, 8, 9, 10] (fun X HX => (HX.pick (m := [_, _, _, _]) [1, 2, 3, 4] rfl (by decide))) (by kernel_rfl) (by kernel_rfl) (by rfl) ?_
      simp only [pick, List.getElem?_cons_succ, List.getElem?_cons_zero]
      refine hk_y (fun Y HY => y_fa rfl rfl kflaw35c_5 rfl) rfl rfl ?_
      refine hk_y (fun Y HY => y_ld rfl rfl kflaw35c_6 (HY.cell (i := 3) rfl rfl)) rfl rfl ?_
      refine hk_y (fun Y HY => y_mov rfl rfl) rfl rfl ?_
      refine hk_y (fun Y HY => y_fa rfl rfl kflaw35c_5 rfl) rfl rfl ?_
      refine hk_y (fun Y HY => y_ld rfl rfl kflaw35c_6 (HY.cell (i := 3) rfl rfl)) rfl rfl ?_
      refine hk_y (fun Y HY => y_mov rfl rfl) rfl rfl ?_
      refine hk_y (fun Y HY => y_iae (hA1) rfl rfl rfl kflaw35c_18 (rfl) (by omega) (Nat.mul_one _)) rfl rfl ?_
      refine hk_nil ?_
      intro w59 H60
      refine tv_op (Yd.op (y_ldr (H60.rd (i := 0) rfl) rfl rfl kflaw35c_19 (gz1))) rfl rfl ?_
      rintro _ _ ⟨rfl, rfl⟩
      refine ⟨(H60.pick (m := [_, _, _, _]) [1, 2, 3, 4] rfl (by decide)), fun w61 e63 => ?_⟩
      have H62 := H60.ext e63
      refine tv_op (Yd.op (y_add rfl rfl rfl (rfl))) rfl rfl ?_
      rintro _ _ ⟨rfl, rfl⟩
      refine ⟨(H62.pick (m := [_, _, _, _]) [1, 2, 3, 4] rfl (by decide)), fun w64 e66 => ?_⟩
      have H65 := H62.ext e66
      refine tv_op (Yd.op (y_iae (hA1) rfl rfl rfl kflaw35c_18 (rfl) (by omega) (Nat.mul_one _))) rfl rfl ?_
      rintro _ _ ⟨rfl, rfl⟩
      refine ⟨(H65.pick (m := [_, _, _, _]) [1, 2, 3, 4] rfl (by decide)), fun w67 e69 => ?_⟩
      have H68 := H65.ext e69
      refine tv_op (op_ste (i := 0) (vs := [.int _ _]) H68 rfl rfl rfl rfl rfl kflaw35c_20 rfl (by rw [vi_len, hz1]; show k + 1 ≤ _; omega) rfl rfl) rfl rfl ?_
      rintro _ w70 H71
      refine ⟨(H71.pick (m := [_, _, _, _]) [1, 2, 3, 4] rfl (by decide)), fun w72 e74 => ?_⟩
      have H73 := H71.ext e74
      refine tv_nil ?_
      refine fn_next ?_
      refine cw_draw H73 [0, 1, 2, 3, 4, 5, 6] [7, 8, 9, 10] (fun X HX => (HX.pick (m := [_, _, _, _]) [0, 2, 3, 4] rfl (by decide))) (by kernel_rfl) (by kernel_rfl) (by rfl) ?_
      simp only [pick, List.getElem?_cons_succ, List.getElem?_cons_zero]
      refine hk_y (fun Y HY => y_fa rfl rfl kflaw35c_7 rfl) rfl rfl ?_
      refine hk_y (fun Y HY => y_ld rfl rfl kflaw35c_6 (HY.cell (i := 3) rfl rfl)) rfl rfl ?_
      refine hk_y (fun Y HY => y_mov rfl rfl) rfl rfl ?_
      refine hk_y (fun Y HY => y_fa rfl rfl kflaw35c_7 rfl) rfl rfl ?_
      refine hk_y (fun Y HY => y_ld rfl rfl kflaw35c_6 (HY.cell (i := 3) rfl rfl)) rfl rfl ?_
      refine hk_y (fun Y HY => y_mov rfl rfl) rfl rfl ?_
      refine hk_y (fun Y HY => y_iae (hA2) rfl rfl rfl kflaw35c_18 (rfl) (by omega) (Nat.mul_one _)) rfl rfl ?_
      refine hk_nil ?_
      intro w75 H76
      refine tv_op (Yd.op (y_ldr (H76.rd (i := 1) rfl) rfl rfl kflaw35c_19 (gz2))) rfl rfl ?_
      rintro _ _ ⟨rfl, rfl⟩
      refine ⟨(H76.pick (m := [_, _, _, _]) [0, 2, 3, 4] rfl (by decide)), fun w77 e79 => ?_⟩
      have H78 := H76.ext e79
      refine tv_op (Yd.op (y_sub rfl rfl rfl (rfl))) rfl rfl ?_
      rintro _ _ ⟨rfl, rfl⟩
      refine ⟨(H78.pick (m := [_, _, _, _]) [0, 2, 3, 4] rfl (by decide)), fun w80 e82 => ?_⟩
      have H81 := H78.ext e82
      refine tv_op (Yd.op (y_iae (hA2) rfl rfl rfl kflaw35c_18 (rfl) (by omega) (Nat.mul_one _))) rfl rfl ?_
      rintro _ _ ⟨rfl, rfl⟩
      refine ⟨(H81.pick (m := [_, _, _, _]) [0, 2, 3, 4] rfl (by decide)), fun w83 e85 => ?_⟩
      have H84 := H81.ext e85
      refine tv_op (op_ste (i := 1) (vs := [.int _ _]) H84 rfl rfl rfl rfl rfl kflaw35c_20 rfl (by rw [vi_len, hz2]; show k + 1 ≤ _; omega) rfl rfl) rfl rfl ?_
      rintro _ w86 H87
      refine ⟨(H87.pick (m := [_, _, _, _]) [0, 2, 3, 4] rfl (by decide)), fun w88 e90 => ?_⟩
      have H89 := H87.ext e90
      refine tv_nil ?_
      refine fn_block ?_
      refine fn_next ?_
      refine cw_reg ?_
      refine ry (y_mov rfl rfl) rfl rfl ?_
      refine ry (y_add rfl rfl rfl (wi (by omega))) rfl rfl ?_
      refine ry (y_asg rfl rfl) rfl rfl ?_
      refine reg_nil ?_
      rw [vi_set] at H89
      rw [vi_set] at H89
      refine fn_roundJ ⟨k + 1, _, _, rfl, H89, by omega, by rw [List.length_set]; exact hz1, by rw [List.length_set]; exact hz2, rfl⟩ ⟨rfl, trivial⟩ (by omega) (by repeat (first | exact kp_refl | refine kp_app rfl rfl ?_ | refine kp_cons rfl ?_)) rfl
     ·skip
      refine cw_exit ?_
      refine fn_then_exit (fn_then_exit (fn_block_exit ?_))
      refine fn_block ?_
      refine fn_next ?_
      refine cw_reg ?_
      refine ry (y_mov rfl rfl) rfl rfl ?_
      refine ry (y_sub rfl rfl rfl (wi (by omega))) rfl rfl ?_
      refine ry (y_asg rfl rfl) rfl rfl ?_
      refine reg_nil ?_
      refine fn_roundJ ⟨i, _, rfl, (H56.pick (m := [_, _]) [2, 3] rfl (by decide)), by omega, rfl⟩ ⟨rfl, trivial⟩ (by omega) (by repeat (first | exact kp_refl | refine kp_app rfl rfl ?_ | refine kp_cons rfl ?_)) rfl
    ·skip
     obtain rfl : c = 0 := by omega
     refine cw_exit ?_
     refine fn_then_exit (fn_then_exit (fn_block_exit ?_))
     refine fn_next ?_
     refine cw_seq ?_
     refine cw_seq ?_
     refine cw_reg ?_
     refine ry (y_mov rfl rfl) rfl rfl ?_
     refine reg_op (op_call (pBack_no w _ b8 _ bl2 _ H38) rfl kflaw35c_12 ⟨rfl, trivial⟩) rfl rfl ?_
     rintro _ w92 ⟨bl93, rfl, H91⟩
     refine ry (y_mov rfl rfl) rfl rfl ?_
     refine ry (y_ext rfl rfl rfl) rfl rfl ?_
     refine ry (y_ext rfl rfl rfl) rfl rfl ?_
     refine reg_op (op_alloc H91 rfl kflaw35c_13) rfl rfl ?_
     rintro _ w95 ⟨b94, rfl, H96⟩
     refine reg_op (op_st (i := 0) (vs := [.int _ _, .int _ _, .int _ _, .int _ _, .slice _ _ _, .slice _ _ _]) H96 rfl rfl rfl rfl rfl kflaw35c_14 rfl rfl rfl) rfl rfl ?_
     rintro _ w97 H98
     refine ry (y_asg rfl rfl) rfl rfl ?_
     refine reg_nil ?_
     refine fn_next ?_
     refine cw_seq ?_
     refine cw_reg ?_
     refine ry (y_mov rfl rfl) rfl rfl ?_
     refine ry (y_neq rfl rfl rfl) rfl rfl ?_
     refine reg_nil ?_
     refine fn_next ?_
     refine cw_condf rfl ?_
     refine cw_skip ?_
     refine fn_next ?_
     refine cw_seq ?_
     refine cw_seq ?_
     refine cw_reg ?_
     refine ry (y_asg rfl rfl) rfl rfl ?_
     refine reg_nil ?_
     refine fn_next ?_
     refine cw_block ?_
     refine cw_loopJ [2, 12, 13, 14, 15, 149, 150, 151, 152, 153, 154, 155, 156, 157, 158, 159, 160, 161, 162, 163, 164, 165, 166, 167, 168, 169, 170, 171, 172, 173, 174, 175, 176, 177, 178, 179, 180, 181] (fun M wl ml => ∃ (i : Nat) (bl2 : Nat → Prop), M = [(12, .int .i64 (i : Int))] ∧ HS w wl [pOb b8 ((lq kl).map Pt.pv) i bl2, Ob.row A' kl.length cap' (ptCells kl) 30 6] ∧ (i ≤ (lq kl).length) ∧ ml = (lq kl).length - i) ⟨0, _, rfl, (H98.pick (m := [_, _]) [1, 2] rfl (by decide)), Nat.zero_le _, rfl⟩ ⟨rfl, trivial⟩ ?_
     rintro M w99 m101 ⟨i, bl2, rfl, H100, him, rfl⟩
     refine cw_seq ?_
     refine cw_seq ?_
     refine cw_reg ?_
     refine ry (y_mov rfl rfl) rfl rfl ?_
     refine ry (y_mov rfl rfl) rfl rfl ?_
     refine ry (y_len rfl Try.underlying22 rfl) rfl rfl ?_
     refine ry (y_lss rfl rfl rfl) rfl rfl ?_
     refine reg_nil ?_
     refine fn_next ?_
     refine cw_condd rfl (fun h102 => ?_) (fun h102 => ?_)
     ·skip
      have hxk := hkp.lq _ (pI_mem (l := lq kl) (i := i) (by omega))
      have ho1 := hxk.1.ho.len
      have ho2 := hxk.1.hq.len
      have pq : ∀ (j : Nat) (v : Value), ([.int .i64 (pI (lq kl) i).x0, .int .i64 (pI (lq kl) i).y0, .int .i64 (pI (lq kl) i).x1, .int .i64 (pI (lq kl) i).y1, .slice (pI (lq kl) i).o.A (pI (lq kl) i).o.n (pI (lq kl) i).o.c, .slice (pI (lq kl) i).q.A (pI (lq kl) i).q.n (pI (lq kl) i).q.c] : List Value)[j]? = some v → (ptCells (lq kl))[i * 6 + j]? = some v := pt_get (pI_get (by omega))
      have pqr : ∀ (j : Nat) (v : Value), ([.int .i64 (pI (lq kl) i).x0, .int .i64 (pI (lq kl) i).y0, .int .i64 (pI (lq kl) i).x1, .int .i64 (pI (lq kl) i).y1] : List Value)[j]? = some v → (ptCells (lq kl))[i * 6 + j]? = some v := fun j v hj => pq j v (by rcases j with _ | _ | _ | _ | j <;> first | exact hj | simp at hj)
      refine cw_skip ?_
      refine fn_next ?_
      refine cw_seq ?_
      refine cw_block ?_
      refine cw_seq ?_
      refine cw_reg ?_
      refine ry (y_mov rfl rfl) rfl rfl ?_
      refine reg_op (op_call (pAgainP w _ b8 (lq kl) i bl2 _ (by omega) (by rw [lq_len]; omega) hkp.lq.pv H100) rfl kflaw35c_21 ⟨rfl, trivial⟩) rfl rfl ?_
      rintro _ w104 ⟨A105, c106, B107, e108, bl109, rfl, H103⟩
      refine ry (y_mov rfl rfl) rfl rfl ?_
      refine ry (y_ext rfl rfl rfl) rfl rfl ?_
      refine ry (y_ext rfl rfl rfl) rfl rfl ?_
      refine reg_op (op_alloc H103 rfl kflaw35c_13) rfl rfl ?_
      rintro _ w111 ⟨b110, rfl, H112⟩
      refine reg_op (op_st (i := 0) (vs := [.int _ _, .int _ _, .int _ _, .int _ _, .slice _ _ _, .slice _ _ _]) H112 rfl rfl rfl rfl rfl kflaw35c_14 rfl rfl rfl) rfl rfl ?_
      rintro _ w113 H114
      refine ry (y_asg rfl rfl) rfl rfl ?_
      refine reg_nil ?_
      refine fn_next ?_
      refine cw_seq ?_
      refine cw_seq ?_
      refine cw_draw H114 [0, 1, 2, 3, 4, 5, 6, 7, 8, 9, 10] [] (fun X HX => HX) (by kernel_rfl) (by kernel_rfl) (by rfl) ?_
      simp only [pick, List.getElem?_cons_succ, List.getElem?_cons_zero]
      refine hk_y (fun Y HY => y_mov rfl rfl) rfl rfl ?_
      refine hk_y (fun Y HY => y_neq rfl rfl rfl) rfl rfl ?_
      refine hk_y (fun Y HY => y_mov rfl rfl) rfl rfl ?_
      refine hk_on (qy_yd fun Y HY => y_ldb (i := 0) (cs := [_, _, _, _, _, _]) HY rfl rfl kflaw35c_8 rfl rfl) rfl rfl rfl rfl ?_
      refine hk_on (qy_yd fun Y HY => y_mov rfl rfl) rfl rfl rfl rfl ?_
      refine hk_on (qy_yd fun Y HY => y_mov rfl rfl) rfl rfl rfl rfl ?_
      refine hk_on (qy_yd fun Y HY => y_iar (i := i) (lq_rd (HY.rd (i := 4) rfl) hkc) rfl rfl rfl kflaw35c_4 (rfl) (by omega) (rfl) (pq 0 _ rfl)) rfl rfl rfl rfl ?_
      refine hk_on (qy_yd fun Y HY => y_ldra (cs := [_, _, _, _, _, _]) (lq_rd (HY.rd (i := 4) rfl) hkc) rfl rfl kflaw35c_8 rfl (by decide) (fun j v hv => pq j v hv)) rfl rfl rfl rfl ?_
      refine hk_on (qy_call (fun Y HY => refPSameL (pI (lq kl) i).x0 (pI (lq kl) i).y0 (pI (lq kl) i).x1 (pI (lq kl) i).y1 (pI (lq kl) i).o.zs (pI (lq kl) i).q.zs _ _ _ _ _ _ _ _ _ _ _ (HY.rd (i := 1) rfl) (HY.rd (i := 2) rfl) ((hxk.1.below HY.base).ho.rd) ((hxk.1.below HY.base).hq.rd) ho1 ho2 (by omega) (by omega)) rfl kflaw35c_17 ⟨rfl, rfl, trivial⟩) rfl rfl rfl rfl ?_
      refine hk_on (qy_yd fun Y HY => y_not rfl rfl) rfl rfl rfl rfl ?_
      refine hk_y (fun Y HY => y_pick rfl rfl rfl) rfl rfl ?_
      refine hk_nil ?_
      intro w115 H116
      refine tv_nil ?_
      refine fn_next ?_
      refine cw_condf rfl ?_
      refine cw_skip ?_
      refine fn_next ?_
      refine cw_seq ?_
      refine cw_reg ?_
      refine ry (y_asg rfl rfl) rfl rfl ?_
      refine reg_nil ?_
      refine fn_next ?_
      refine cw_block ?_
      refine cw_loopJ [15, 171, 172, 173, 174, 175, 176, 177, 178, 179, 180, 181] (fun M wl ml => ∃ (k : Nat) (Z1 Z2 : List Int), M = [(15, .int .i64 (k : Int))] ∧ HS w wl [Ob.row A105 (pI (lq kl) i).o.zs.length c106 (vi .i64 Z1) 2 1, Ob.row B107 (pI (lq kl) i).q.zs.length e108 (vi .i64 Z2) 2 1, pOb b8 ((lq kl).map Pt.pv) (i + 1) bl109, Ob.row A' kl.length cap' (ptCells kl) 30 6, Ob.blk b110 [.int .i64 (pI (lq kl) i).x0, .int .i64 (pI (lq kl) i).y0, .int .i64 (pI (lq kl) i).x1, .int .i64 (pI (lq kl) i).y1, .slice A105 (pI (lq kl) i).o.zs.length c106, .slice B107 (pI (lq kl) i).q.zs.length e108] 30] ∧ (k ≤ (pI (lq kl) i).q.zs.length) ∧ (Z1.length = (pI (lq kl) i).o.zs.length) ∧ (Z2.length = (pI (lq kl) i).q.zs.length) ∧ ml = 301 - k) ⟨0, _, _, rfl, (H116.pick (m := [_, _, _, _, _]) [1, 2, 3, 4, 0] rfl (by decide)), Nat.zero_le _, rfl, rfl, rfl⟩ ⟨rfl, trivial⟩ ?_
      rintro M w117 m119 ⟨k, Z1, Z2, rfl, H118, hk, hz1, hz2, rfl⟩
      refine cw_seq ?_
      refine cw_seq ?_
      refine cw_reg ?_
      refine ry (y_mov rfl rfl) rfl rfl ?_
      refine ry (y_fa rfl rfl kflaw35c_7 rfl) rfl rfl ?_
      refine ry (y_ld rfl rfl kflaw35c_6 (H118.cell (i := 4) rfl rfl)) rfl rfl ?_
      refine ry (y_len rfl Try.underlying28 rfl) rfl rfl ?_
      refine ry (y_lss rfl rfl rfl) rfl rfl ?_
      refine reg_nil ?_
      refine fn_next ?_
      refine cw_condd rfl (fun h120 => ?_) (fun h120 => ?_)
      ·skip
       have hA2 := H118.addr (i := 1) rfl (by omega)
       refine cw_skip ?_
       refine fn_next ?_
       refine cw_seq ?_
       refine cw_block ?_
       refine cw_reg ?_
       refine ry (y_fa rfl rfl kflaw35c_7 rfl) rfl rfl ?_
       refine ry (y_ld rfl rfl kflaw35c_6 (H118.cell (i := 4) rfl rfl)) rfl rfl ?_
       refine ry (y_mov rfl rfl) rfl rfl ?_
       refine ry (y_iae (hA2) rfl rfl rfl kflaw35c_18 (rfl) (by omega) (Nat.mul_one _)) rfl rfl ?_
       refine reg_op (op_ste (i := 1) (vs := [.int _ _]) H118 rfl rfl rfl rfl rfl kflaw35c_20 rfl (by rw [vi_len, hz2]; show k + 1 ≤ _; omega) rfl rfl) rfl rfl ?_
       rintro _ w121 H122
       refine reg_nil ?_
       refine fn_block ?_
       refine fn_next ?_
       refine cw_reg ?_
       refine ry (y_mov rfl rfl) rfl rfl ?_
       refine ry (y_add rfl rfl rfl (wi (by omega))) rfl rfl ?_
       refine ry (y_asg rfl rfl) rfl rfl ?_
       refine reg_nil ?_
       rw [vi_set] at H122
       refine fn_roundJ ⟨k + 1, _, _, rfl, H122, by omega, hz1, by rw [List.length_set]; exact hz2, rfl⟩ ⟨rfl, trivial⟩ (by omega) (by repeat (first | exact kp_refl | refine kp_app rfl rfl ?_ | refine kp_cons rfl ?_)) rfl
      ·skip
       refine cw_exit ?_
       refine fn_then_exit (fn_then_exit (fn_block_exit ?_))
       refine fn_block ?_
       refine fn_next ?_
       refine cw_reg ?_
       refine ry (y_mov rfl rfl) rfl rfl ?_
       refine ry (y_add rfl rfl rfl (wi (by omega))) rfl rfl ?_
       refine ry (y_asg rfl rfl) rfl rfl ?_
       refine reg_nil ?_
       refine fn_roundJ ⟨i + 1, _, rfl, (H118.pick (m := [_, _]) [2, 3] rfl (by decide)), by omega, rfl⟩ ⟨rfl, trivial⟩ (by omega) (by repeat (first | exact kp_refl | refine kp_app rfl rfl ?_ | refine kp_cons rfl ?_)) rfl
     ·skip
      obtain ⟨m2, hme⟩ : ∃ m2, m2 = i := ⟨_, rfl⟩
      subst hme
      have hie : m2 = (lq kl).length := by omega
      refine cw_exit ?_
      refine fn_then_exit (fn_then_exit (fn_block_exit ?_))
      refine fn_next ?_
      refine cw_seq ?_
      refine cw_seq ?_
      refine cw_reg ?_
      refine ry (y_mov rfl rfl) rfl rfl ?_
      refine reg_op (op_call (pAgain_no w _ b8 _ _ bl2 _ (by rw [List.length_map]; exact hie) H100) rfl kflaw35c_21 ⟨rfl, trivial⟩) rfl rfl ?_
      rintro _ w124 ⟨bl125, rfl, H123⟩
      refine ry (y_mov rfl rfl) rfl rfl ?_
      refine ry (y_ext rfl rfl rfl) rfl rfl ?_
      refine ry (y_ext rfl rfl rfl) rfl rfl ?_
      refine reg_op (op_alloc H123 rfl kflaw35c_13) rfl rfl ?_
      rintro _ w127 ⟨b126, rfl, H128⟩
      refine reg_op (op_st (i := 0) (vs := [.int _ _, .int _ _, .int _ _, .int _ _, .slice _ _ _, .slice _ _ _]) H128 rfl rfl rfl rfl rfl kflaw35c_14 rfl rfl rfl) rfl rfl ?_
      rintro _ w129 H130
      refine ry (y_asg rfl rfl) rfl rfl ?_
      refine reg_nil ?_
      refine fn_next ?_
      refine cw_seq ?_
      refine cw_reg ?_
      refine ry (y_mov rfl rfl) rfl rfl ?_
      refine ry (y_neq rfl rfl rfl) rfl rfl ?_
      refine reg_nil ?_
      refine fn_next ?_
      refine cw_condf rfl ?_
      refine cw_skip ?_
      refine fn_next ?_
      refine cw_seq ?_
      refine cw_seq ?_
      refine cw_reg ?_
      refine ry (y_mov rfl rfl) rfl rfl ?_
      refine ry (y_len rfl Try.underlying22 rfl) rfl rfl ?_
      refine ry (y_eql rfl rfl rfl) rfl rfl ?_
      refine reg_nil ?_
      refine fn_next ?_
      refine cw_condd rfl (fun hc137 => ?_) (fun hc137 => ?_)
      ·skip
       refine cw_seq ?_
       refine cw_reg ?_
       refine ry (y_asg rfl rfl) rfl rfl ?_
       refine reg_nil ?_
       refine fn_next ?_
       refine cw_ret ?_
       refine fn_then_ret ?_
       refine fn_ret1 rfl rfl ?_
       exact ⟨rfl, H130.base⟩
      ·skip
       obtain ⟨i, hi1⟩ : ∃ i, (lq kl).length = i + 1 := ⟨(lq kl).length - 1, by omega⟩
       rw [hie, hi1] at H130
       have hxk := hkp.lq _ (pI_mem (l := lq kl) (i := i) (by omega))
       have ho1 := hxk.1.ho.len
       have ho2 := hxk.1.hq.len
       have pq : ∀ (j : Nat) (v : Value), ([.int .i64 (pI (lq kl) i).x0, .int .i64 (pI (lq kl) i).y0, .int .i64 (pI (lq kl) i).x1, .int .i64 (pI (lq kl) i).y1, .slice (pI (lq kl) i).o.A (pI (lq kl) i).o.n (pI (lq kl) i).o.c, .slice (pI (lq kl) i).q.A (pI (lq kl) i).q.n (pI (lq kl) i).q.c] : List Value)[j]? = some v → (ptCells (lq kl))[i * 6 + j]? = some v := pt_get (pI_get (by omega))
       have pqr : ∀ (j : Nat) (v : Value), ([.int .i64 (pI (lq kl) i).x0, .int .i64 (pI (lq kl) i).y0, .int .i64 (pI (lq kl) i).x1, .int .i64 (pI (lq kl) i).y1] : List Value)[j]? = some v → (ptCells (lq kl))[i * 6 + j]? = some v := fun j v hj => pq j v (by rcases j with _ | _ | _ | _ | j <;> first | exact hj | simp at hj)
       refine cw_skip ?_
       refine fn_next ?_
       refine cw_seq ?_
       refine cw_reg ?_
       refine ry (y_mov rfl rfl) rfl rfl ?_
       refine ry (y_mov rfl rfl) rfl rfl ?_
       refine ry (y_len rfl Try.underlying22 rfl) rfl rfl ?_
       refine ry (y_sub rfl rfl rfl (show _ = (i : Int) from (wi (by omega)).trans (by omega))) rfl rfl ?_
       refine ry (y_iar (i := i) (lq_rd (H130.rd (i := 2) rfl) hkc) rfl rfl rfl kflaw35c_4 (rfl) (by omega) (rfl) (pq 0 _ rfl)) rfl rfl ?_
       refine ry (y_ldra (cs := [_, _, _, _, _, _]) (lq_rd (H130.rd (i := 2) rfl) hkc) rfl rfl kflaw35c_8 rfl (by decide) (fun j v hv => pq j v hv)) rfl rfl ?_
       refine reg_op (op_alloc H130 rfl kflaw35c_13) rfl rfl ?_
       rintro _ w133 ⟨b132, rfl, H134⟩
       refine reg_op (op_st (i := 0) (vs := [.int _ _, .int _ _, .int _ _, .int _ _, .slice _ _ _, .slice _ _ _]) H134 rfl rfl rfl rfl rfl kflaw35c_14 rfl rfl rfl) rfl rfl ?_
       rintro _ w135 H136
       refine reg_nil ?_
       refine fn_next ?_
       refine cw_seq ?_
       refine cw_reg ?_
       refine ry (y_mov rfl rfl) rfl rfl ?_
       refine reg_op (op_call (pBackP w _ b8 (lq kl) i bl125 _ (by omega) (by rw [lq_len]; omega) hkp.lq.pv (H136.pick (m := [_, _, _, _]) [2, 0, 1, 3] rfl (by decide))) rfl kflaw35c_12 ⟨rfl, trivial⟩) rfl rfl ?_
       rintro _ w138 ⟨A139, c140, B141, e142, bl143, rfl, H137⟩
       refine ry (y_mov rfl rfl) rfl rfl ?_
       refine ry (y_ext rfl rfl rfl) rfl rfl ?_
       refine ry (y_ext rfl rfl rfl) rfl rfl ?_
       refine reg_op (op_alloc H137 rfl kflaw35c_13) rfl rfl ?_
       rintro _ w145 ⟨b144, rfl, H146⟩
       refine reg_op (op_st (i := 0) (vs := [.int _ _, .int _ _, .int _ _, .int _ _, .slice _ _ _, .slice _ _ _]) H146 rfl rfl rfl rfl rfl kflaw35c_14 rfl rfl rfl) rfl rfl ?_
       rintro _ w147 H148
       refine ry (y_asg rfl rfl) rfl rfl ?_
       refine reg_nil ?_
       refine fn_next ?_
       refine cw_seq ?_
       refine cw_reg ?_
       refine ry (y_mov rfl rfl) rfl rfl ?_
       refine ry (y_eql rfl rfl rfl) rfl rfl ?_
       refine ry (y_mov rfl rfl) rfl rfl ?_
       refine rgy (y_ldb (i := 0) (cs := [_, _, _, _, _, _]) H148 rfl rfl kflaw35c_8 rfl rfl) rfl rfl rfl rfl ?_
       refine rgy (y_fa rfl rfl kflaw35c_15 rfl) rfl rfl rfl rfl ?_
       refine rgy (y_lda (cs := [_, _, _, _]) rfl rfl kflaw35c_16 rfl (fun j v hv => H148.cell (i := 4) rfl (lst_part (a := 0) (m := 4) hv))) rfl rfl rfl rfl ?_
       refine rgy (y_fa rfl rfl kflaw35c_7 rfl) rfl rfl rfl rfl ?_
       refine rgy (y_ld rfl rfl kflaw35c_6 (H148.cell (i := 4) rfl rfl)) rfl rfl rfl rfl ?_
       refine rgy (y_fa rfl rfl kflaw35c_5 rfl) rfl rfl rfl rfl ?_
       refine rgy (y_ld rfl rfl kflaw35c_6 (H148.cell (i := 4) rfl rfl)) rfl rfl rfl rfl ?_
       refine rgy (y_buildL (places := [(0, 4), (4, 1), (5, 1)]) (parts := [(0, _), (1, _), (2, _)]) (vs := [(0, _), (1, _), (2, _)]) (cs := [.int _ _, .int _ _, .int _ _, .int _ _, .slice _ _ _, .slice _ _ _]) [(0, [_, _, _, _]), (1, [_]), (2, [_])] rfl Try.underlying30 (by kernel_rfl) kflaw35c_13 rfl ⟨rfl, rfl, rfl, trivial⟩ rfl rfl) rfl rfl rfl rfl ?_
       refine rg_on rfl rfl rfl (op_call (refPSameL (pI (lq kl) i).x0 (pI (lq kl) i).y0 (pI (lq kl) i).x1 (pI (lq kl) i).y1 (pI (lq kl) i).q.zs (pI (lq kl) i).o.zs _ _ _ _ _ _ _ _ _ _ _ (H148.rd (i := 1) rfl) (H148.rd (i := 2) rfl) ((hxk.1.below H148.base).hq.rd) ((hxk.1.below H148.base).ho.rd) ho2 ho1 (by omega) (by omega)) rfl kflaw35c_17 ⟨rfl, rfl, trivial⟩) rfl ?_
       rintro _ w150 ⟨rfl, e149⟩
       have H151 := H148.ext e149
       refine ry (y_pick rfl rfl rfl) rfl rfl ?_
       refine ry (y_asg rfl rfl) rfl rfl ?_
       refine reg_nil ?_
       refine fn_next ?_
       refine cw_ret ?_
       refine fn_ret1 rfl rfl ?_
       exact ⟨rfl, H151.base⟩
   ·skip
    have hks : lq kl = kl := lq_le (by omega)
    have hm : kl.length = (lq kl).length := by rw [hks]
    rw [show ptCells kl = ptCells (lq kl) from by rw [hks]] at H15
    refine cw_skip ?_
    refine fn_next ?_
    refine cw_seq ?_
    refine cw_seq ?_
    refine cw_reg ?_
    refine ry (y_mov rfl rfl) rfl rfl ?_
    refine ry (y_len rfl Try.underlying22 rfl) rfl rfl ?_
    refine ry (y_sub rfl rfl rfl (wi (by omega))) rfl rfl ?_
    refine ry (y_asg rfl rfl) rfl rfl ?_
    refine reg_nil ?_
    refine fn_next ?_
    refine cw_block ?_
    refine cw_loopJ [2, 6, 7, 8, 9, 83, 84, 85, 86, 87, 88, 89, 90, 91, 92, 93, 94, 95, 96, 97, 98, 99, 100, 101, 102, 103, 104, 105, 106, 107, 108, 109, 110, 111, 112, 113, 114, 115, 116, 117, 118, 119, 120, 121, 122, 123, 124, 125, 126, 127, 128, 129, 130, 131, 132, 133, 134, 135, 136, 137, 138, 139, 140, 141] (fun M wl ml => ∃ (c : Nat) (bl2 : Nat → Prop), M = [(6, .int .i64 ((c : Int) - 1))] ∧ HS w wl [pOb b8 ((lq kl).map Pt.pv) c bl2, Ob.row A' kl.length cap' (ptCells (lq kl)) 30 6] ∧ (c ≤ (lq kl).length) ∧ ml = c + 1) ⟨(lq kl).length, _, rfl, H15, Nat.le_refl _, rfl⟩ ⟨by rw [← hm]; rfl, trivial⟩ ?_
    rintro M w152 m154 ⟨c, bl2, rfl, H153, hcm, rfl⟩
    refine cw_seq ?_
    refine cw_seq ?_
    refine cw_reg ?_
    refine ry (y_mov rfl rfl) rfl rfl ?_
    refine ry (y_geq rfl rfl rfl) rfl rfl ?_
    refine reg_nil ?_
    refine fn_next ?_
    refine cw_condd rfl (fun h155 => ?_) (fun h155 => ?_)
    ·skip
     obtain ⟨i, rfl⟩ : ∃ i, c = i + 1 := ⟨c - 1, by omega⟩
     refine cw_know' (d := 6) (u := .int .i64 (i : Int)) rfl (by rw [show (((i + 1 : Nat) : Int) - 1) = (i : Int) by omega]) ?_
     have hxk := hkp.lq _ (pI_mem (l := lq kl) (i := i) (by omega))
     have ho1 := hxk.1.ho.len
     have ho2 := hxk.1.hq.len
     have pq : ∀ (j : Nat) (v : Value), ([.int .i64 (pI (lq kl) i).x0, .int .i64 (pI (lq kl) i).y0, .int .i64 (pI (lq kl) i).x1, .int .i64 (pI (lq kl) i).y1, .slice (pI (lq kl) i).o.A (pI (lq kl) i).o.n (pI (lq kl) i).o.c, .slice (pI (lq kl) i).q.A (pI (lq kl) i).q.n (pI (lq kl) i).q.c] : List Value)[j]? = some v → (ptCells (lq kl))[i * 6 + j]? = some v := pt_get (pI_get (by omega))
     have pqr : ∀ (j : Nat) (v : Value), ([.int .i64 (pI (lq kl) i).x0, .int .i64 (pI (lq kl) i).y0, .int .i64 (pI (lq kl) i).x1, .int .i64 (pI (lq kl) i).y1] : List Value)[j]? = some v → (ptCells (lq kl))[i * 6 + j]? = some v := fun j v hj => pq j v (by rcases j with _ | _ | _ | _ | j <;> first | exact hj | simp at hj)
     refine cw_skip ?_
     refine fn_next ?_
     refine cw_seq ?_
     refine cw_block ?_
     refine cw_seq ?_
     refine cw_reg ?_
     refine ry (y_mov rfl rfl) rfl rfl ?_
     refine reg_op (op_call (pBackP w _ b8 (lq kl) i bl2 _ (by omega) (by rw [lq_len]; omega) hkp.lq.pv H153) rfl kflaw35c_12 ⟨rfl, trivial⟩) rfl rfl ?_
     rintro _ w157 ⟨A158, c159, B160, e161, bl162, rfl, H156⟩
     refine ry (y_mov rfl rfl) rfl rfl ?_
     refine ry (y_ext rfl rfl rfl) rfl rfl ?_
     refine ry (y_ext rfl rfl rfl) rfl rfl ?_
     refine reg_op (op_alloc H156 rfl kflaw35c_13) rfl rfl ?_
     rintro _ w164 ⟨b163, rfl, H165⟩
     refine reg_op (op_st (i := 0) (vs := [.int _ _, .int _ _, .int _ _, .int _ _, .slice _ _ _, .slice _ _ _]) H165 rfl rfl rfl rfl rfl kflaw35c_14 rfl rfl rfl) rfl rfl ?_
     rintro _ w166 H167
     refine ry (y_asg rfl rfl) rfl rfl ?_
     refine reg_nil ?_
     refine fn_next ?_
     refine cw_seq ?_
     refine cw_seq ?_
     refine cw_draw H167 [0, 1, 2, 3, 4, 5, 6, 7, 8, 9, 10, 11, 12, 13, 14, 15, 16, 17, 18, 19, 20, 21, 22] [] (fun X HX => HX) (by kernel_rfl) (by kernel_rfl) (by rfl) ?_
     simp only [pick, List.getElem?_cons_succ, List.getElem?_cons_zero]
     refine hk_y (fun Y HY => y_mov rfl rfl) rfl rfl ?_
     refine hk_y (fun Y HY => y_neq rfl rfl rfl) rfl rfl ?_
     refine hk_y (fun Y HY => y_mov rfl rfl) rfl rfl ?_
     refine hk_on (qy_yd fun Y HY => y_ldb (i := 0) (cs := [_, _, _, _, _, _]) HY rfl rfl kflaw35c_8 rfl rfl) rfl rfl rfl rfl ?_
     refine hk_on (qy_yd fun Y HY => y_mov rfl rfl) rfl rfl rfl rfl ?_
     refine hk_on (qy_yd fun Y HY => y_mov rfl rfl) rfl rfl rfl rfl ?_
     refine hk_on (qy_yd fun Y HY => y_iar (i := i) (HY.rd (i := 4) rfl) rfl rfl rfl kflaw35c_4 (rfl) (by omega) (rfl) (pq 0 _ rfl)) rfl rfl rfl rfl ?_
     refine hk_on (qy_yd fun Y HY => y_far (HY.rd (i := 4) rfl) rfl rfl kflaw35c_15 rfl (pq 0 _ rfl)) rfl rfl rfl rfl ?_
     refine hk_on (qy_yd fun Y HY => y_ldra (cs := [_, _, _, _]) (HY.rd (i := 4) rfl) rfl rfl kflaw35c_16 rfl (by decide) (fun j v hv => pqr j v hv)) rfl rfl rfl rfl ?_
     refine hk_on (qy_yd fun Y HY => y_mov rfl rfl) rfl rfl rfl rfl ?_
     refine hk_on (qy_yd fun Y HY => y_mov rfl rfl) rfl rfl rfl rfl ?_
     refine hk_on (qy_yd fun Y HY => y_iar (i := i) (HY.rd (i := 4) rfl) rfl rfl rfl kflaw35c_4 (rfl) (by omega) (rfl) (pq 0 _ rfl)) rfl rfl rfl rfl ?_
     refine hk_on (qy_yd fun Y HY => y_far (HY.rd (i := 4) rfl) rfl rfl kflaw35c_7 rfl (pq 0 _ rfl)) rfl rfl rfl rfl ?_
     refine hk_on (qy_yd fun Y HY => y_ldr (HY.rd (i := 4) rfl) rfl rfl kflaw35c_6 (pq 5 _ rfl)) rfl rfl rfl rfl ?_
     refine hk_on (qy_yd fun Y HY => y_mov rfl rfl) rfl rfl rfl rfl ?_
     refine hk_on (qy_yd fun Y HY => y_mov rfl rfl) rfl rfl rfl rfl ?_
     refine hk_on (qy_yd fun Y HY => y_iar (i := i) (HY.rd (i := 4) rfl) rfl rfl rfl kflaw35c_4 (rfl) (by omega) (rfl) (pq 0 _ rfl)) rfl rfl rfl rfl ?_
     refine hk_on (qy_yd fun Y HY => y_far (HY.rd (i := 4) rfl) rfl rfl kflaw35c_5 rfl (pq 0 _ rfl)) rfl rfl rfl rfl ?_
     refine hk_on (qy_yd fun Y HY => y_ldr (HY.rd (i := 4) rfl) rfl rfl kflaw35c_6 (pq 4 _ rfl)) rfl rfl rfl rfl ?_
     refine hk_on (qy_yd fun Y HY => y_buildL (places := [(0, 4), (4, 1), (5, 1)]) (parts := [(0, _), (1, _), (2, _)]) (vs := [(0, _), (1, _), (2, _)]) (cs := [.int _ _, .int _ _, .int _ _, .int _ _, .slice _ _ _, .slice _ _ _]) [(0, [_, _, _, _]), (1, [_]), (2, [_])] rfl Try.underlying30 (by kernel_rfl) kflaw35c_13 rfl ⟨rfl, rfl, rfl, trivial⟩ rfl rfl) rfl rfl rfl rfl ?_
     refine hk_on (qy_call (fun Y HY => refPSameL (pI (lq kl) i).x0 (pI (lq kl) i).y0 (pI (lq kl) i).x1 (pI (lq kl) i).y1 (pI (lq kl) i).q.zs (pI (lq kl) i).o.zs _ _ _ _ _ _ _ _ _ _ _ (HY.rd (i := 1) rfl) (HY.rd (i := 2) rfl) ((hxk.1.below HY.base).hq.rd) ((hxk.1.below HY.base).ho.rd) ho2 ho1 (by omega) (by omega)) rfl kflaw35c_17 ⟨rfl, rfl, trivial⟩) rfl rfl rfl rfl ?_
     refine hk_on (qy_yd fun Y HY => y_not rfl rfl) rfl rfl rfl rfl ?_
     refine hk_y (fun Y HY => y_pick rfl rfl rfl) rfl rfl ?_
     refine hk_nil ?_
     intro w168 H169
     refine tv_nil ?_
     refine fn_next ?_
     refine cw_condf rfl ?_
     refine cw_skip ?_
     refine fn_next ?_
     refine cw_seq ?_
     refine cw_reg ?_
     refine ry (y_asg rfl rfl) rfl rfl ?_
     refine reg_nil ?_
     refine fn_next ?_
     refine cw_block ?_
     refine cw_loopJ [9, 115, 116, 117, 118, 119, 120, 121, 122, 123, 124, 125, 126, 127, 128, 129, 130, 131, 132, 133, 134, 135, 136, 137, 138, 139, 140, 141] (fun M wl ml => ∃ (k : Nat) (Z1 Z2 : List Int), M = [(9, .int .i64 (k : Int))] ∧ HS w wl [Ob.row A158 (pI (lq kl) i).q.zs.length c159 (vi .i64 Z1) 2 1, Ob.row B160 (pI (lq kl) i).o.zs.length e161 (vi .i64 Z2) 2 1, pOb b8 ((lq kl).map Pt.pv) i bl162, Ob.row A' kl.length cap' (ptCells (lq kl)) 30 6, Ob.blk b163 [.int .i64 (pI (lq kl) i).x0, .int .i64 (pI (lq kl) i).y0, .int .i64 (pI (lq kl) i).x1, .int .i64 (pI (lq kl) i).y1, .slice A158 (pI (lq kl) i).q.zs.length c159, .slice B160 (pI (lq kl) i).o.zs.length e161] 30] ∧ (k ≤ (pI (lq kl) i).q.zs.length) ∧ (Z1.length = (pI (lq kl) i).q.zs.length) ∧ (Z2.length = (pI (lq kl) i).o.zs.length) ∧ ml = 301 - k) ⟨0, _, _, rfl, (H169.pick (m := [_, _, _, _, _]) [1, 2, 3, 4, 0] rfl (by decide)), Nat.zero_le _, rfl, rfl, rfl⟩ ⟨rfl, trivial⟩ ?_
     rintro M w170 m172 ⟨k, Z1, Z2, rfl, H171, hk, hz1, hz2, rfl⟩
     refine cw_seq ?_
     refine cw_seq ?_
     refine cw_reg ?_
     refine ry (y_mov rfl rfl) rfl rfl ?_
     refine ry (y_fa rfl rfl kflaw35c_5 rfl) rfl rfl ?_
     refine ry (y_ld rfl rfl kflaw35c_6 (H171.cell (i := 4) rfl rfl)) rfl rfl ?_
     refine ry (y_len rfl Try.underlying28 rfl) rfl rfl ?_
     refine ry (y_lss rfl rfl rfl) rfl rfl ?_
     refine reg_nil ?_
     refine fn_next ?_
     refine cw_condd rfl (fun h173 => ?_) (fun h173 => ?_)
     ·skip
      have gz1 := vi_get (k := .i64) (zs := Z1) (i := k) (by omega)
      have gz2 := vi_get (k := .i64) (zs := Z2) (i := k) (by omega)
      have hA1 := H171.addr (i := 0) rfl (by omega)
      have hA2 := H171.addr (i := 1) rfl (by omega)
      refine cw_skip ?_
      refine fn_next ?_
      refine cw_seq ?_
      refine cw_block ?_
      refine cw_seq ?_
      refine cw_draw H171 [0, 1, 2, 3, 4, 5, 6] [7, 8, 9, 10] (fun X HX => (HX.pick (m := [_, _, _, _]) [1, 2, 3, 4] rfl (by decide))) (by kernel_rfl) (by kernel_rfl) (by rfl) ?_
      simp only [pick, List.getElem?_cons_succ, List.getElem?_cons_zero]
      refine hk_y (fun Y HY => y_fa rfl rfl kflaw35c_5 rfl) rfl rfl ?_
      refine hk_y (fun Y HY => y_ld rfl rfl kflaw35c_6 (HY.cell (i := 3) rfl rfl)) rfl rfl ?_
      refine hk_y (fun Y HY => y_mov rfl rfl) rfl rfl ?_
      refine hk_y (fun Y HY => y_fa rfl rfl kflaw35c_5 rfl) rfl rfl ?_
      refine hk_y (fun Y HY => y_ld rfl rfl kflaw35c_6 (HY.cell (i := 3) rfl rfl)) rfl rfl ?_
      refine hk_y (fun Y HY => y_mov rfl rfl) rfl rfl ?_
      refine hk_y (fun Y HY => y_iae (hA1) rfl rfl rfl kflaw35c_18 (rfl) (by omega) (Nat.mul_one _)) rfl rfl ?_
      refine hk_nil ?_
      intro w174 H175
      refine tv_op (Yd.op (y_ldr (H175.rd (i := 0) rfl) rfl rfl kflaw35c_19 (gz1))) rfl rfl ?_
      rintro _ _ ⟨rfl, rfl⟩
      refine ⟨(H175.pick (m := [_, _, _, _]) [1, 2, 3, 4] rfl (by decide)), fun w176 e178 => ?_⟩
      have H177 := H175.ext e178
      refine tv_op (Yd.op (y_add rfl rfl rfl (rfl))) rfl rfl ?_
      rintro _ _ ⟨rfl, rfl⟩
      refine ⟨(H177.pick (m := [_, _, _, _]) [1, 2, 3, 4] rfl (by decide)), fun w179 e181 => ?_⟩
      have H180 := H177.ext e181
      refine tv_op (Yd.op (y_iae (hA1) rfl rfl rfl kflaw35c_18 (rfl) (by omega) (Nat.mul_one _))) rfl rfl ?_
      rintro _ _ ⟨rfl, rfl⟩
      refine ⟨(H180.pick (m := [_, _, _, _]) [1, 2, 3, 4] rfl (by decide)), fun w182 e184 => ?_⟩
      have H183 := H180.ext e184
      refine tv_op (op_ste (i := 0) (vs := [.int _ _]) H183 rfl rfl rfl rfl rfl kflaw35c_20 rfl (by rw [vi_len, hz1]; show k + 1 ≤ _; omega) rfl rfl) rfl rfl ?_
      rintro _ w185 H186
      refine ⟨(H186.pick (m := [_, _, _, _]) [1, 2, 3, 4] rfl (by decide)), fun w187 e189 => ?_⟩
      have H188 := H186.ext e189
      refine tv_nil ?_
      refine fn_next ?_
      refine cw_draw H188 [0, 1, 2, 3, 4, 5, 6] [7, 8, 9, 10] (fun X HX => (HX.pick (m := [_, _, _, _]) [0, 2, 3, 4] rfl (by decide))) (by kernel_rfl) (by kernel_rfl) (by rfl) ?_
      simp only [pick, List.getElem?_cons_succ, List.getElem?_cons_zero]
      refine hk_y (fun Y HY => y_fa rfl rfl kflaw35c_7 rfl) rfl rfl ?_
      refine hk_y (fun Y HY => y_ld rfl rfl kflaw35c_6 (HY.cell (i := 3) rfl rfl)) rfl rfl ?_
      refine hk_y (fun Y HY => y_mov rfl rfl) rfl rfl ?_
      refine hk_y (fun Y HY => y_fa rfl rfl kflaw35c_7 rfl) rfl rfl ?_
      refine hk_y (fun Y HY => y_ld rfl rfl kflaw35c_6 (HY.cell (i := 3) rfl rfl)) rfl rfl ?_
      refine hk_y (fun Y HY => y_mov rfl rfl) rfl rfl ?_
      refine hk_y (fun Y HY => y_iae (hA2) rfl rfl rfl kflaw35c_18 (rfl) (by omega) (Nat.mul_one _)) rfl rfl ?_
      refine hk_nil ?_
      intro w190 H191
      refine tv_op (Yd.op (y_ldr (H191.rd (i := 1) rfl) rfl rfl kflaw35c_19 (gz2))) rfl rfl ?_
      rintro _ _ ⟨rfl, rfl⟩
      refine ⟨(H191.pick (m := [_, _, _, _]) [0, 2, 3, 4] rfl (by decide)), fun w192 e194 => ?_⟩
      have H193 := H191.ext e194
      refine tv_op (Yd.op (y_sub rfl rfl rfl (rfl))) rfl rfl ?_
      rintro _ _ ⟨rfl, rfl⟩
      refine ⟨(H193.pick (m := [_, _, _, _]) [0, 2, 3, 4] rfl (by decide)), fun w195 e197 => ?_⟩
      have H196 := H193.ext e197
      refine tv_op (Yd.op (y_iae (hA2) rfl rfl rfl kflaw35c_18 (rfl) (by omega) (Nat.mul_one _))) rfl rfl ?_
      rintro _ _ ⟨rfl, rfl⟩
      refine ⟨(H196.pick (m := [_, _, _, _]) [0, 2, 3, 4] rfl (by decide)), fun w198 e200 => ?_⟩
      have H199 := H196.ext e200
      refine tv_op (op_ste (i := 1) (vs := [.int _ _]) H199 rfl rfl rfl rfl rfl kflaw35c_20 rfl (by rw [vi_len, hz2]; show k + 1 ≤ _; omega) rfl rfl) rfl rfl ?_
      rintro _ w201 H202
      refine ⟨(H202.pick (m := [_, _, _, _]) [0, 2, 3, 4] rfl (by decide)), fun w203 e205 => ?_⟩
      have H204 := H202.ext e205
      refine tv_nil ?_
      refine fn_block ?_
      refine fn_next ?_
      refine cw_reg ?_
      refine ry (y_mov rfl rfl) rfl rfl ?_
      refine ry (y_add rfl rfl rfl (wi (by omega))) rfl rfl ?_
      refine ry (y_asg rfl rfl) rfl rfl ?_
      refine reg_nil ?_
      rw [vi_set] at H204
      rw [vi_set] at H204
      refine fn_roundJ ⟨k + 1, _, _, rfl, H204, by omega, by rw [List.length_set]; exact hz1, by rw [List.length_set]; exact hz2, rfl⟩ ⟨rfl, trivial⟩ (by omega) (by repeat (first | exact kp_refl | refine kp_app rfl rfl ?_ | refine kp_cons rfl ?_)) rfl
     ·skip
      refine cw_exit ?_
      refine fn_then_exit (fn_then_exit (fn_block_exit ?_))
      refine fn_block ?_
      refine fn_next ?_
      refine cw_reg ?_
      refine ry (y_mov rfl rfl) rfl rfl ?_
      refine ry (y_sub rfl rfl rfl (wi (by omega))) rfl rfl ?_
      refine ry (y_asg rfl rfl) rfl rfl ?_
      refine reg_nil ?_
      refine fn_roundJ ⟨i, _, rfl, (H171.pick (m := [_, _]) [2, 3] rfl (by decide)), by omega, rfl⟩ ⟨rfl, trivial⟩ (by omega) (by repeat (first | exact kp_refl | refine kp_app rfl rfl ?_ | refine kp_cons rfl ?_)) rfl
    ·skip
     obtain rfl : c = 0 := by omega
     refine cw_exit ?_
     refine fn_then_exit (fn_then_exit (fn_block_exit ?_))
     refine fn_next ?_
     refine cw_seq ?_
     refine cw_seq ?_
     refine cw_reg ?_
     refine ry (y_mov rfl rfl) rfl rfl ?_
     refine reg_op (op_call (pBack_no w _ b8 _ bl2 _ H153) rfl kflaw35c_12 ⟨rfl, trivial⟩) rfl rfl ?_
     rintro _ w207 ⟨bl208, rfl, H206⟩
     refine ry (y_mov rfl rfl) rfl rfl ?_
     refine ry (y_ext rfl rfl rfl) rfl rfl ?_
     refine ry (y_ext rfl rfl rfl) rfl rfl ?_
     refine reg_op (op_alloc H206 rfl kflaw35c_13) rfl rfl ?_
     rintro _ w210 ⟨b209, rfl, H211⟩
     refine reg_op (op_st (i := 0) (vs := [.int _ _, .int _ _, .int _ _, .int _ _, .slice _ _ _, .slice _ _ _]) H211 rfl rfl rfl rfl rfl kflaw35c_14 rfl rfl rfl) rfl rfl ?_
     rintro _ w212 H213
     refine ry (y_asg rfl rfl) rfl rfl ?_
     refine reg_nil ?_
     refine fn_next ?_
     refine cw_seq ?_
     refine cw_reg ?_
     refine ry (y_mov rfl rfl) rfl rfl ?_
     refine ry (y_neq rfl rfl rfl) rfl rfl ?_
     refine reg_nil ?_
     refine fn_next ?_
     refine cw_condf rfl ?_
     refine cw_skip ?_
     refine fn_next ?_
     refine cw_seq ?_
     refine cw_seq ?_
     refine cw_reg ?_
     refine ry (y_asg rfl rfl) rfl rfl ?_
     refine reg_nil ?_
     refine fn_next ?_
     refine cw_block ?_
     refine cw_loopJ [2, 12, 13, 14, 15, 149, 150, 151, 152, 153, 154, 155, 156, 157, 158, 159, 160, 161, 162, 163, 164, 165, 166, 167, 168, 169, 170, 171, 172, 173, 174, 175, 176, 177, 178, 179, 180, 181] (fun M wl ml => ∃ (i : Nat) (bl2 : Nat → Prop), M = [(12, .int .i64 (i : Int))] ∧ HS w wl [pOb b8 ((lq kl).map Pt.pv) i bl2, Ob.row A' kl.length cap' (ptCells (lq kl)) 30 6] ∧ (i ≤ (lq kl).length) ∧ ml = (lq kl).length - i) ⟨0, _, rfl, (H213.pick (m := [_, _]) [1, 2] rfl (by decide)), Nat.zero_le _, rfl⟩ ⟨rfl, trivial⟩ ?_
     rintro M w214 m216 ⟨i, bl2, rfl, H215, him, rfl⟩
     refine cw_seq ?_
     refine cw_seq ?_
     refine cw_reg ?_
     refine ry (y_mov rfl rfl) rfl rfl ?_
     refine ry (y_mov rfl rfl) rfl rfl ?_
     refine ry (y_len rfl Try.underlying22 rfl) rfl rfl ?_
     refine ry (y_lss rfl rfl rfl) rfl rfl ?_
     refine reg_nil ?_
     refine fn_next ?_
     refine cw_condd rfl (fun h217 => ?_) (fun h217 => ?_)
     ·skip
      have hxk := hkp.lq _ (pI_mem (l := lq kl) (i := i) (by omega))
      have ho1 := hxk.1.ho.len
      have ho2 := hxk.1.hq.len
      have pq : ∀ (j : Nat) (v : Value), ([.int .i64 (pI (lq kl) i).x0, .int .i64 (pI (lq kl) i).y0, .int .i64 (pI (lq kl) i).x1, .int .i64 (pI (lq kl) i).y1, .slice (pI (lq kl) i).o.A (pI (lq kl) i).o.n (pI (lq kl) i).o.c, .slice (pI (lq kl) i).q.A (pI (lq kl) i).q.n (pI (lq kl) i).q.c] : List Value)[j]? = some v → (ptCells (lq kl))[i * 6 + j]? = some v := pt_get (pI_get (by omega))
      have pqr : ∀ (j : Nat) (v : Value), ([.int .i64 (pI (lq kl) i).x0, .int .i64 (pI (lq kl) i).y0, .int .i64 (pI (lq kl) i).x1, .int .i64 (pI (lq kl) i).y1] : List Value)[j]? = some v → (ptCells (lq kl))[i * 6 + j]? = some v := fun j v hj => pq j v (by rcases j with _ | _ | _ | _ | j <;> first | exact hj | simp at hj)
      refine cw_skip ?_
      refine fn_next ?_
      refine cw_seq ?_
      refine cw_block ?_
      refine cw_seq ?_
      refine cw_reg ?_
      refine ry (y_mov rfl rfl) rfl rfl ?_
      refine reg_op (op_call (pAgainP w _ b8 (lq kl) i bl2 _ (by omega) (by rw [lq_len]; omega) hkp.lq.pv H215) rfl kflaw35c_21 ⟨rfl, trivial⟩) rfl rfl ?_
      rintro _ w219 ⟨A220, c221, B222, e223, bl224, rfl, H218⟩
      refine ry (y_mov rfl rfl) rfl rfl ?_
      refine ry (y_ext rfl rfl rfl) rfl rfl ?_
      refine ry (y_ext rfl rfl rfl) rfl rfl ?_
      refine reg_op (op_alloc H218 rfl kflaw35c_13) rfl rfl ?_
      rintro _ w226 ⟨b225, rfl, H227⟩
      refine reg_op (op_st (i := 0) (vs := [.int _ _, .int _ _, .int _ _, .int _ _, .slice _ _ _, .slice _ _ _]) H227 rfl rfl rfl rfl rfl kflaw35c_14 rfl rfl rfl) rfl rfl ?_
      rintro _ w228 H229
      refine ry (y_asg rfl rfl) rfl rfl ?_
      refine reg_nil ?_
      refine fn_next ?_
      refine cw_seq ?_
      refine cw_seq ?_
      refine cw_draw H229 [0, 1, 2, 3, 4, 5, 6, 7, 8, 9, 10] [] (fun X HX => HX) (by kernel_rfl) (by kernel_rfl) (by rfl) ?_
      simp only [pick, List.getElem?_cons_succ, List.getElem?_cons_zero]
      refine hk_y (fun Y HY => y_mov rfl rfl) rfl rfl ?_
      refine hk_y (fun Y HY => y_neq rfl rfl rfl) rfl rfl ?_
      refine hk_y (fun Y HY => y_mov rfl rfl) rfl rfl ?_
      refine hk_on (qy_yd fun Y HY => y_ldb (i := 0) (cs := [_, _, _, _, _, _]) HY rfl rfl kflaw35c_8 rfl rfl) rfl rfl rfl rfl ?_
      refine hk_on (qy_yd fun Y HY => y_mov rfl rfl) rfl rfl rfl rfl ?_
      refine hk_on (qy_yd fun Y HY => y_mov rfl rfl) rfl rfl rfl rfl ?_
      refine hk_on (qy_yd fun Y HY => y_iar (i := i) (HY.rd (i := 4) rfl) rfl rfl rfl kflaw35c_4 (rfl) (by omega) (rfl) (pq 0 _ rfl)) rfl rfl rfl rfl ?_
      refine hk_on (qy_yd fun Y HY => y_ldra (cs := [_, _, _, _, _, _]) (HY.rd (i := 4) rfl) rfl rfl kflaw35c_8 rfl (by decide) (fun j v hv => pq j v hv)) rfl rfl rfl rfl ?_
      refine hk_on (qy_call (fun Y HY => refPSameL (pI (lq kl) i).x0 (pI (lq kl) i).y0 (pI (lq kl) i).x1 (pI (lq kl) i).y1 (pI (lq kl) i).o.zs (pI (lq kl) i).q.zs _ _ _ _ _ _ _ _ _ _ _ (HY.rd (i := 1) rfl) (HY.rd (i := 2) rfl) ((hxk.1.below HY.base).ho.rd) ((hxk.1.below HY.base).hq.rd) ho1 ho2 (by omega) (by omega)) rfl kflaw35c_17 ⟨rfl, rfl, trivial⟩) rfl rfl rfl rfl ?_
      refine hk_on (qy_yd fun Y HY => y_not rfl rfl) rfl rfl rfl rfl ?_
      refine hk_y (fun Y HY => y_pick rfl rfl rfl) rfl rfl ?_
      refine hk_nil ?_
      intro w230 H231
      refine tv_nil ?_
      refine fn_next ?_
      refine cw_condf rfl ?_
      refine cw_skip ?_
      refine fn_next ?_
      refine cw_seq ?_
      refine cw_reg ?_
      refine ry (y_asg rfl rfl) rfl rfl ?_
      refine reg_nil ?_
      refine fn_next ?_
      refine cw_block ?_
      refine cw_loopJ [15, 171, 172, 173, 174, 175, 176, 177, 178, 179, 180, 181] (fun M wl ml => ∃ (k : Nat) (Z1 Z2 : List Int), M = [(15, .int .i64 (k : Int))] ∧ HS w wl [Ob.row A220 (pI (lq kl) i).o.zs.length c221 (vi .i64 Z1) 2 1, Ob.row B222 (pI (lq kl) i).q.zs.length e223 (vi .i64 Z2) 2 1, pOb b8 ((lq kl).map Pt.pv) (i + 1) bl224, Ob.row A' kl.length cap' (ptCells (lq kl)) 30 6, Ob.blk b225 [.int .i64 (pI (lq kl) i).x0, .int .i64 (pI (lq kl) i).y0, .int .i64 (pI (lq kl) i).x1, .int .i64 (pI (lq kl) i).y1, .slice A220 (pI (lq kl) i).o.zs.length c221, .slice B222 (pI (lq kl) i).q.zs.length e223] 30] ∧ (k ≤ (pI (lq kl) i).q.zs.length) ∧ (Z1.length = (pI (lq kl) i).o.zs.length) ∧ (Z2.length = (pI (lq kl) i).q.zs.length) ∧ ml = 301 - k) ⟨0, _, _, rfl, (H231.pick (m := [_, _, _, _, _]) [1, 2, 3, 4, 0] rfl (by decide)), Nat.zero_le _, rfl, rfl, rfl⟩ ⟨rfl, trivial⟩ ?_
      rintro M w232 m234 ⟨k, Z1, Z2, rfl, H233, hk, hz1, hz2, rfl⟩
      refine cw_seq ?_
      refine cw_seq ?_
      refine cw_reg ?_
      refine ry (y_mov rfl rfl) rfl rfl ?_
      refine ry (y_fa rfl rfl kflaw35c_7 rfl) rfl rfl ?_
      refine ry (y_ld rfl rfl kflaw35c_6 (H233.cell (i := 4) rfl rfl)) rfl rfl ?_
      refine ry (y_len rfl Try.underlying28 rfl) rfl rfl ?_
      refine ry (y_lss rfl rfl rfl) rfl rfl ?_
      refine reg_nil ?_
      refine fn_next ?_
      refine cw_condd rfl (fun h235 => ?_) (fun h235 => ?_)
      ·skip
       have hA2 := H233.addr (i := 1) rfl (by omega)
       refine cw_skip ?_
       refine fn_next ?_
       refine cw_seq ?_
       refine cw_block ?_
       refine cw_reg ?_
       refine ry (y_fa rfl rfl kflaw35c_7 rfl) rfl rfl ?_
       refine ry (y_ld rfl rfl kflaw35c_6 (H233.cell (i := 4) rfl rfl)) rfl rfl ?_
       refine ry (y_mov rfl rfl) rfl rfl ?_
       refine ry (y_iae (hA2) rfl rfl rfl kflaw35c_18 (rfl) (by omega) (Nat.mul_one _)) rfl rfl ?_
       refine reg_op (op_ste (i := 1) (vs := [.int _ _]) H233 rfl rfl rfl rfl rfl kflaw35c_20 rfl (by rw [vi_len, hz2]; show k + 1 ≤ _; omega) rfl rfl) rfl rfl ?_
       rintro _ w236 H237
       refine reg_nil ?_
       refine fn_block ?_
       refine fn_next ?_
       refine cw_reg ?_
       refine ry (y_mov rfl rfl) rfl rfl ?_
       refine ry (y_add rfl rfl rfl (wi (by omega))) rfl rfl ?_
       refine ry (y_asg rfl rfl) rfl rfl ?_
       refine reg_nil ?_
       rw [vi_set] at H237
       refine fn_roundJ ⟨k + 1, _, _, rfl, H237, by omega, hz1, by rw [List.length_set]; exact hz2, rfl⟩ ⟨rfl, trivial⟩ (by omega) (by repeat (first | exact kp_refl | refine kp_app rfl rfl ?_ | refine kp_cons rfl ?_)) rfl
      ·skip
       refine cw_exit ?_
       refine fn_then_exit (fn_then_exit (fn_block_exit ?_))
       refine fn_block ?_
       refine fn_next ?_
       refine cw_reg ?_
       refine ry (y_mov rfl rfl) rfl rfl ?_
       refine ry (y_add rfl rfl rfl (wi (by omega))) rfl rfl ?_
       refine ry (y_asg rfl rfl) rfl rfl ?_
       refine reg_nil ?_
       refine fn_roundJ ⟨i + 1, _, rfl, (H233.pick (m := [_, _]) [2, 3] rfl (by decide)), by omega, rfl⟩ ⟨rfl, trivial⟩ (by omega) (by repeat (first | exact kp_refl | refine kp_app rfl rfl ?_ | refine kp_cons rfl ?_)) rfl
     ·skip
      obtain ⟨m2, hme⟩ : ∃ m2, m2 = i := ⟨_, rfl⟩
      subst hme
      have hie : m2 = (lq kl).length := by omega
      refine cw_exit ?_
      refine fn_then_exit (fn_then_exit (fn_block_exit ?_))
      refine fn_next ?_
      refine cw_seq ?_
      refine cw_seq ?_
      refine cw_reg ?_
      refine ry (y_mov rfl rfl) rfl rfl ?_
      refine reg_op (op_call (pAgain_no w _ b8 _ _ bl2 _ (by rw [List.length_map]; exact hie) H215) rfl kflaw35c_21 ⟨rfl, trivial⟩) rfl rfl ?_
      rintro _ w239 ⟨bl240, rfl, H238⟩
      refine ry (y_mov rfl rfl) rfl rfl ?_
      refine ry (y_ext rfl rfl rfl) rfl rfl ?_
      refine ry (y_ext rfl rfl rfl) rfl rfl ?_
      refine reg_op (op_alloc H238 rfl kflaw35c_13) rfl rfl ?_
      rintro _ w242 ⟨b241, rfl, H243⟩
      refine reg_op (op_st (i := 0) (vs := [.int _ _, .int _ _, .int _ _, .int _ _, .slice _ _ _, .slice _ _ _]) H243 rfl rfl rfl rfl rfl kflaw35c_14 rfl rfl rfl) rfl rfl ?_
      rintro _ w244 H245
      refine ry (y_asg rfl rfl) rfl rfl ?_
      refine reg_nil ?_
      refine fn_next ?_
      refine cw_seq ?_
      refine cw_reg ?_
      refine ry (y_mov rfl rfl) rfl rfl ?_
      refine ry (y_neq rfl rfl rfl) rfl rfl ?_
      refine reg_nil ?_
      refine fn_next ?_
      refine cw_condf rfl ?_
      refine cw_skip ?_
      refine fn_next ?_
      refine cw_seq ?_
      refine cw_seq ?_
      refine cw_reg ?_
      refine ry (y_mov rfl rfl) rfl rfl ?_
      refine ry (y_len rfl Try.underlying22 rfl) rfl rfl ?_
      refine ry (y_eql rfl rfl rfl) rfl rfl ?_
      refine reg_nil ?_
      refine fn_next ?_
      refine cw_condd rfl (fun hc137 => ?_) (fun hc137 => ?_)
      ·skip
       refine cw_seq ?_
       refine cw_reg ?_
       refine ry (y_asg rfl rfl) rfl rfl ?_
       refine reg_nil ?_
       refine fn_next ?_
       refine cw_ret ?_
       refine fn_then_ret ?_
       refine fn_ret1 rfl rfl ?_
       exact ⟨rfl, H245.base⟩
      ·skip
       obtain ⟨i, hi1⟩ : ∃ i, (lq kl).length = i + 1 := ⟨(lq kl).length - 1, by omega⟩
       rw [hie, hi1] at H245
       have hxk := hkp.lq _ (pI_mem (l := lq kl) (i := i) (by omega))
       have ho1 := hxk.1.ho.len
       have ho2 := hxk.1.hq.len
       have pq : ∀ (j : Nat) (v : Value), ([.int .i64 (pI (lq kl) i).x0, .int .i64 (pI (lq kl) i).y0, .int .i64 (pI (lq kl) i).x1, .int .i64 (pI (lq kl) i).y1, .slice (pI (lq kl) i).o.A (pI (lq kl) i).o.n (pI (lq kl) i).o.c, .slice (pI (lq kl) i).q.A (pI (lq kl) i).q.n (pI (lq kl) i).q.c] : List Value)[j]? = some v → (ptCells (lq kl))[i * 6 + j]? = some v := pt_get (pI_get (by omega))
       have pqr : ∀ (j : Nat) (v : Value), ([.int .i64 (pI (lq kl) i).x0, .int .i64 (pI (lq kl) i).y0, .int .i64 (pI (lq kl) i).x1, .int .i64 (pI (lq kl) i).y1] : List Value)[j]? = some v → (ptCells (lq kl))[i * 6 + j]? = some v := fun j v hj => pq j v (by rcases j with _ | _ | _ | _ | j <;> first | exact hj | simp at hj)
       refine cw_skip ?_
       refine fn_next ?_
       refine cw_seq ?_
       refine cw_reg ?_
       refine ry (y_mov rfl rfl) rfl rfl ?_
       refine ry (y_mov rfl rfl) rfl rfl ?_
       refine ry (y_len rfl Try.underlying22 rfl) rfl rfl ?_
       refine ry (y_sub rfl rfl rfl (show _ = (i : Int) from (wi (by omega)).trans (by omega))) rfl rfl ?_
       refine ry (y_iar (i := i) (H245.rd (i := 2) rfl) rfl rfl rfl kflaw35c_4 (rfl) (by omega) (rfl) (pq 0 _ rfl)) rfl rfl ?_
       refine ry (y_ldra (cs := [_, _, _, _, _, _]) (H245.rd (i := 2) rfl) rfl rfl kflaw35c_8 rfl (by decide) (fun j v hv => pq j v hv)) rfl rfl ?_
       refine reg_op (op_alloc H245 rfl kflaw35c_13) rfl rfl ?_
       rintro _ w248 ⟨b247, rfl, H249⟩
       refine reg_op (op_st (i := 0) (vs := [.int _ _, .int _ _, .int _ _, .int _ _, .slice _ _ _, .slice _ _ _]) H249 rfl rfl rfl rfl rfl kflaw35c_14 rfl rfl rfl) rfl rfl ?_
       rintro _ w250 H251
       refine reg_nil ?_
       refine fn_next ?_
       refine cw_seq ?_
       refine cw_reg ?_
       refine ry (y_mov rfl rfl) rfl rfl ?_
       refine reg_op (op_call (pBackP w _ b8 (lq kl) i bl240 _ (by omega) (by rw [lq_len]; omega) hkp.lq.pv (H251.pick (m := [_, _, _, _]) [2, 0, 1, 3] rfl (by decide))) rfl kflaw35c_12 ⟨rfl, trivial⟩) rfl rfl ?_
       rintro _ w253 ⟨A254, c255, B256, e257, bl258, rfl, H252⟩
       refine ry (y_mov rfl rfl) rfl rfl ?_
       refine ry (y_ext rfl rfl rfl) rfl rfl ?_
       refine ry (y_ext rfl rfl rfl) rfl rfl ?_
       refine reg_op (op_alloc H252 rfl kflaw35c_13) rfl rfl ?_
       rintro _ w260 ⟨b259, rfl, H261⟩
       refine reg_op (op_st (i := 0) (vs := [.int _ _, .int _ _, .int _ _, .int _ _, .slice _ _ _, .slice _ _ _]) H261 rfl rfl rfl rfl rfl kflaw35c_14 rfl rfl rfl) rfl rfl ?_
       rintro _ w262 H263
       refine ry (y_asg rfl rfl) rfl rfl ?_
       refine reg_nil ?_
       refine fn_next ?_
       refine cw_seq ?_
       refine cw_reg ?_
       refine ry (y_mov rfl rfl) rfl rfl ?_
       refine ry (y_eql rfl rfl rfl) rfl rfl ?_
       refine ry (y_mov rfl rfl) rfl rfl ?_
       refine rgy (y_ldb (i := 0) (cs := [_, _, _, _, _, _]) H263 rfl rfl kflaw35c_8 rfl rfl) rfl rfl rfl rfl ?_
       refine rgy (y_fa rfl rfl kflaw35c_15 rfl) rfl rfl rfl rfl ?_
       refine rgy (y_lda (cs := [_, _, _, _]) rfl rfl kflaw35c_16 rfl (fun j v hv => H263.cell (i := 4) rfl (lst_part (a := 0) (m := 4) hv))) rfl rfl rfl rfl ?_
       refine rgy (y_fa rfl rfl kflaw35c_7 rfl) rfl rfl rfl rfl ?_
       refine rgy (y_ld rfl rfl kflaw35c_6 (H263.cell (i := 4) rfl rfl)) rfl rfl rfl rfl ?_
       refine rgy (y_fa rfl rfl kflaw35c_5 rfl) rfl rfl rfl rfl ?_
       refine rgy (y_ld rfl rfl kflaw35c_6 (H263.cell (i := 4) rfl rfl)) rfl rfl rfl rfl ?_
       refine rgy (y_buildL (places := [(0, 4), (4, 1), (5, 1)]) (parts := [(0, _), (1, _), (2, _)]) (vs := [(0, _), (1, _), (2, _)]) (cs := [.int _ _, .int _ _, .int _ _, .int _ _, .slice _ _ _, .slice _ _ _]) [(0, [_, _, _, _]), (1, [_]), (2, [_])] rfl Try.underlying30 (by kernel_rfl) kflaw35c_13 rfl ⟨rfl, rfl, rfl, trivial⟩ rfl rfl) rfl rfl rfl rfl ?_
       refine rg_on rfl rfl rfl (op_call (refPSameL (pI (lq kl) i).x0 (pI (lq kl) i).y0 (pI (lq kl) i).x1 (pI (lq kl) i).y1 (pI (lq kl) i).q.zs (pI (lq kl) i).o.zs _ _ _ _ _ _ _ _ _ _ _ (H263.rd (i := 1) rfl) (H263.rd (i := 2) rfl) ((hxk.1.below H263.base).hq.rd) ((hxk.1.below H263.base).ho.rd) ho2 ho1 (by omega) (by omega)) rfl kflaw35c_17 ⟨rfl, rfl, trivial⟩) rfl ?_
       rintro _ w265 ⟨rfl, e264⟩
       have H266 := H263.ext e264
       refine ry (y_pick rfl rfl rfl) rfl rfl ?_
       refine ry (y_asg rfl rfl) rfl rfl ?_
       refine reg_nil ?_
       refine fn_next ?_
       refine cw_ret ?_
       refine fn_ret1 rfl rfl ?_
       exact ⟨rfl, H266.base⟩

theorem pastRounds_law (ps : List Pt) (A0 : Option Addr) (n0 c0 : Nat) (W : World) (hps : Rd W A0 (ptCells ps)) (lps : ps.length = n0) (le0 : n0 ≤ c0) (mx0 : c0 ≤ maxLen) (wps : ∀ x ∈ ps, x.ok W) :
    Calls Try.prog 3 #[.slice A0 n0 c0] W fun e w' => e = .returned (.bool true) ∧ Below W.heap.size W w' := lawOf (pastRounds_all A0 n0 c0 ps W hps lps wps)

end Go.Proofs.Ytgkkbeomhkggjaa
