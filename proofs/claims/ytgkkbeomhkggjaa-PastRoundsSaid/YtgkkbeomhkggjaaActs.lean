/- Slices of acts: a kind, a patch. -/
import Derived.Test.YtgkkbeomhkggjaaPast5
import Derived.ChangeSame
set_option linter.unusedVariables false
set_option linter.unusedSimpArgs false
namespace Go.Proofs.Ytgkkbeomhkggjaa
open Go Go.RowKit
theorem kfacts_1 : elB Try.prog 38 7 = true := by kernel_rfl
theorem kfacts_2 : fldB Try.prog 43 1 1 = true := by kernel_rfl
theorem kfacts_3 : fldB Try.prog 30 1 4 = true := by kernel_rfl
theorem kfacts_4 : oneB Try.prog 28 = true := by kernel_rfl
theorem kfacts_5 : fldB Try.prog 30 2 5 = true := by kernel_rfl
structure Ac where
  k : Int
  p : Pt
def Ac.cells (a : Ac) : List Value := .int .u8 a.k :: a.p.cells
theorem Ac.cells_len (a : Ac) : a.cells.length = 7 := rfl
def acCells (l : List Ac) : List Value := l.flatMap Ac.cells
def acI (l : List Ac) (i : Nat) : Ac := l.getD i ⟨0, ⟨0, 0, 0, 0, ⟨none, 0, 0, []⟩, ⟨none, 0, 0, []⟩⟩⟩
theorem acI_get {l : List Ac} {i : Nat} (h : i < l.length) : l[i]? = some (acI l i) := by unfold acI; rw [List.getD_eq_getElem?_getD, List.getElem?_eq_getElem h]; rfl
theorem acI_mem {l : List Ac} {i : Nat} (h : i < l.length) : acI l i ∈ l := List.mem_of_getElem? (acI_get h)
theorem acI_of {l : List Ac} {x : Ac} (h : x ∈ l) : ∃ j, j < l.length ∧ acI l j = x := by
  obtain ⟨j, hj, rfl⟩ := List.mem_iff_getElem.1 h
  exact ⟨j, hj, by unfold acI; rw [List.getD_eq_getElem?_getD, List.getElem?_eq_getElem hj]; rfl⟩
theorem ac_get {l : List Ac} {i : Nat} {p : Ac} (h : l[i]? = some p) : ∀ (j : Nat) (v : Value), p.cells[j]? = some v → (acCells l)[i * 7 + j]? = some v := fun j v hv => by
  have hj : j < 7 := (List.getElem?_eq_some_iff.1 hv).1
  exact (flat_get Ac.cells_len h hj).trans hv
section
variable {H : Type} {enc : TypeId × Value → H} {P : Program} {w : World}
theorem act_of_trod {t e : TypeId} {g0 g1 f0 f1 f2 : Field} {fl : Nat} {fuel : Nat} {cs : List Value} {x : DataW H × List MemPlace} (ht : P.underlying t = some (.struct #[g0, g1])) (hT : P.cellsOf t = 7) (hg0 : P.underlying g0.type = some (.int .u8)) (k0 : P.cellsOf g0.type = 1) (l0 : g0.offset = 0) (l1 : g1.offset = 1)
    (hs : P.underlying g1.type = some (.struct #[f0, f1, f2])) (hC : P.cellsOf g1.type = 6)
    (hf0 : flatB P .i64 fl f0.type = true) (c0 : P.cellsOf f0.type = 4) (o0 : f0.offset = 0) (h1 : P.underlying f1.type = some (.slice e)) (c1 : P.cellsOf f1.type = 1) (o1 : f1.offset = 4) (h2 : P.underlying f2.type = some (.slice e)) (c2 : P.cellsOf f2.type = 1) (o2 : f2.offset = 5)
    (he : flatB P .i64 1 e = true) (ce : P.cellsOf e = 1) (h : DataW.trod enc P w 0 (fun _ => true) true fuel t cs = some x) : ∃ a : Ac, cs = a.cells ∧ a.p.ok w := by
  obtain ⟨y0, y1, n, _, hl, q0, q1⟩ := Go.ChangeShapes.trod_struct2 ht h
  rw [hT] at hl
  rw [k0, l0] at q0
  rw [hC, l1] at q1
  obtain ⟨p, e1, hp⟩ := patch_of_trod hs hC hf0 c0 o0 h1 c1 o1 h2 c2 o2 he ce q1
  obtain ⟨z, e0, _⟩ := DataW.trod_int hg0 q0
  match cs, hl with
  | c :: cs, hl =>
    simp only [List.length_cons, Nat.reduceEqDiff] at hl
    simp only [List.drop_succ_cons, List.drop_zero, List.take_succ_cons, List.take_zero, List.cons.injEq, and_true] at e0 e1
    subst e0
    rw [List.take_of_length_le (by omega)] at e1
    subst e1
    exact ⟨⟨z, p⟩, rfl, hp⟩
end

set_option maxRecDepth 100000 in
theorem actsBig_yes (A : Option Addr) (n c m : Nat) (acl : List Ac) (w : World) (hr : Rd w A (acCells acl)) (hl : acl.length = n) (hm : m ≤ 1000) (hbig : ¬ (n ≤ m ∧ ∀ x ∈ acl, x.p.o.n ≤ 300 ∧ x.p.q.n ≤ 300)) :
    Ret Try.prog 15 [.slice A n c, .int .i64 (m : Int)] w (fun z w' => z = .bool true ∧ Below w.heap.size w w') := by
 refine ret_enter Try.func15 rfl rfl rfl ?_
 have H0 := HS.start w
 refine cw_seq ?_
 refine cw_reg ?_
 refine ry (y_asg rfl rfl) rfl rfl ?_
 refine reg_nil ?_
 refine fn_next ?_
 refine cw_seq ?_
 refine cw_seq ?_
 refine cw_reg ?_
 refine ry (y_mov rfl rfl) rfl rfl ?_
 refine ry (y_len rfl Try.underlying38 rfl) rfl rfl ?_
 refine ry (y_mov rfl rfl) rfl rfl ?_
 refine ry (y_gtr rfl rfl rfl) rfl rfl ?_
 refine reg_nil ?_
 refine fn_next ?_
 refine cw_condd rfl (fun hc0 => ?_) (fun hc0 => ?_)
 ·skip
  refine cw_seq ?_
  refine cw_reg ?_
  refine ry (y_asg rfl rfl) rfl rfl ?_
  refine reg_nil ?_
  refine fn_next ?_
  refine cw_ret ?_
  refine fn_then_ret ?_
  refine fn_ret1 rfl rfl ?_
  first | exact ⟨rfl, H0.base⟩
 ·skip
  refine cw_skip ?_
  refine fn_next ?_
  refine cw_seq ?_
  refine cw_seq ?_
  refine cw_reg ?_
  refine ry (y_asg rfl rfl) rfl rfl ?_
  refine reg_nil ?_
  refine fn_next ?_
  refine cw_block ?_
  refine cw_loopJ [4, 5, 10, 11, 12, 13, 14, 15, 16, 17, 18, 19, 20, 21, 22, 23, 24, 25, 26, 27, 28, 29, 30, 31, 32, 33] (fun M wl ml => ∃ (i : Nat), M = [(5, .int .i64 (i : Int))] ∧ HS w wl [] ∧ (i ≤ n) ∧ (Hid (∀ j, j < i → (acI acl j).p.o.n ≤ 300 ∧ (acI acl j).p.q.n ≤ 300)) ∧ ml = n - i) ⟨0, rfl, H0, Nat.zero_le _, Lib.hid (fun j hj => absurd hj (Nat.not_lt_zero _)), rfl⟩ ⟨rfl, trivial⟩ ?_
  rintro M w2 m4 ⟨i, rfl, H3, hp0, hp1, rfl⟩
  refine cw_seq ?_
  refine cw_seq ?_
  refine cw_reg ?_
  refine ry (y_mov rfl rfl) rfl rfl ?_
  refine ry (y_mov rfl rfl) rfl rfl ?_
  refine ry (y_len rfl Try.underlying38 rfl) rfl rfl ?_
  refine ry (y_lss rfl rfl rfl) rfl rfl ?_
  refine reg_nil ?_
  refine fn_next ?_
  refine cw_condd rfl (fun h5 => ?_) (fun h5 => ?_)
  ·skip
   have pq : ∀ (j : Nat) (v : Value), ([.int .u8 (acI acl i).k, .int .i64 (acI acl i).p.x0, .int .i64 (acI acl i).p.y0, .int .i64 (acI acl i).p.x1, .int .i64 (acI acl i).p.y1, .slice (acI acl i).p.o.A (acI acl i).p.o.n (acI acl i).p.o.c, .slice (acI acl i).p.q.A (acI acl i).p.q.n (acI acl i).p.q.c] : List Value)[j]? = some v → (acCells acl)[i * 7 + j]? = some v := ac_get (acI_get (by omega))
   refine cw_skip ?_
   refine fn_next ?_
   refine cw_seq ?_
   refine cw_block ?_
   refine cw_seq ?_
   refine cw_reg ?_
   refine ry (y_mov rfl rfl) rfl rfl ?_
   refine ry (y_mov rfl rfl) rfl rfl ?_
   refine ry (y_iar (i := i) ((hr.below H3.base)) rfl rfl rfl kfacts_1 (rfl) (by omega) (rfl) (pq 0 _ rfl)) rfl rfl ?_
   refine ry (y_far ((hr.below H3.base)) rfl rfl kfacts_2 rfl (pq 0 _ rfl)) rfl rfl ?_
   refine ry (y_far ((hr.below H3.base)) rfl rfl kfacts_3 rfl (pq 1 _ rfl)) rfl rfl ?_
   refine ry (y_ldr ((hr.below H3.base)) rfl rfl kfacts_4 (pq 5 _ rfl)) rfl rfl ?_
   refine ry (y_len rfl Try.underlying28 rfl) rfl rfl ?_
   refine ry (y_gtr rfl rfl rfl) rfl rfl ?_
   refine ry (y_mov rfl rfl) rfl rfl ?_
   refine rg_splitd (d := 24) rfl (fun h6 => ?_) (fun h6 => ?_)
   ·skip
    have c24 := h6
    refine rg_off rfl rfl rfl rfl rfl ?_
    refine rg_off rfl rfl rfl rfl rfl ?_
    refine rg_off rfl rfl rfl rfl rfl ?_
    refine rg_off rfl rfl rfl rfl rfl ?_
    refine rg_off rfl rfl rfl rfl rfl ?_
    refine rg_off rfl rfl rfl rfl rfl ?_
    refine rg_off rfl rfl rfl rfl rfl ?_
    refine rg_off rfl rfl rfl rfl rfl ?_
    refine ry (y_pick rfl rfl rfl) rfl rfl ?_
    refine reg_nil ?_
    refine fn_next ?_
    refine cw_condt rfl ?_
    refine cw_seq ?_
    refine cw_reg ?_
    refine ry (y_asg rfl rfl) rfl rfl ?_
    refine reg_nil ?_
    refine fn_next ?_
    refine cw_ret ?_
    refine fn_block_ret (fn_then_ret (fn_then_ret (fn_block_ret (fn_then_ret ?_))))
    refine fn_ret1 rfl rfl ?_
    first | exact ⟨rfl, H3.base⟩
   ·skip
    have c24 := h6
    refine rgy (y_mov rfl rfl) rfl rfl rfl rfl ?_
    refine rgy (y_mov rfl rfl) rfl rfl rfl rfl ?_
    refine rgy (y_iar (i := i) ((hr.below H3.base)) rfl rfl rfl kfacts_1 (rfl) (by omega) (rfl) (pq 0 _ rfl)) rfl rfl rfl rfl ?_
    refine rgy (y_far ((hr.below H3.base)) rfl rfl kfacts_2 rfl (pq 0 _ rfl)) rfl rfl rfl rfl ?_
    refine rgy (y_far ((hr.below H3.base)) rfl rfl kfacts_5 rfl (pq 1 _ rfl)) rfl rfl rfl rfl ?_
    refine rgy (y_ldr ((hr.below H3.base)) rfl rfl kfacts_4 (pq 6 _ rfl)) rfl rfl rfl rfl ?_
    refine rgy (y_len rfl Try.underlying28 rfl) rfl rfl rfl rfl ?_
    refine rgy (y_gtr rfl rfl rfl) rfl rfl rfl rfl ?_
    refine ry (y_pick rfl rfl rfl) rfl rfl ?_
    refine reg_nil ?_
    refine fn_next ?_
    refine cw_condd rfl (fun h7 => ?_) (fun h7 => ?_)
    ·skip
     refine cw_seq ?_
     refine cw_reg ?_
     refine ry (y_asg rfl rfl) rfl rfl ?_
     refine reg_nil ?_
     refine fn_next ?_
     refine cw_ret ?_
     refine fn_block_ret (fn_then_ret (fn_then_ret (fn_block_ret (fn_then_ret ?_))))
     refine fn_ret1 rfl rfl ?_
     first | exact ⟨rfl, H3.base⟩
    ·skip
     refine cw_skip ?_
     refine fn_block ?_
     refine fn_next ?_
     refine cw_reg ?_
     refine ry (y_mov rfl rfl) rfl rfl ?_
     refine ry (y_add rfl rfl rfl (wi (by omega))) rfl rfl ?_
     refine ry (y_asg rfl rfl) rfl rfl ?_
     refine reg_nil ?_
     refine fn_roundJ ⟨i + 1, rfl, H3, by omega, Lib.hid (fun j hj => (Nat.lt_or_eq_of_le (Nat.le_of_lt_succ hj)).elim (hp1.out j) (fun e => by subst e; exact ⟨by omega, by omega⟩)), rfl⟩ ⟨rfl, trivial⟩ (by omega) (by repeat (first | exact kp_refl | refine kp_app rfl rfl ?_ | refine kp_cons rfl ?_)) rfl
  ·skip
   exact absurd ⟨by omega, fun x hx => by obtain ⟨j, hj, rfl⟩ := acI_of hx; exact hp1.out j (by omega)⟩ hbig

set_option maxRecDepth 100000 in
theorem actsBig_no (A : Option Addr) (n c m : Nat) (acl : List Ac) (w : World) (hr : Rd w A (acCells acl)) (hl : acl.length = n) (hm : m ≤ 1000) (hok : n ≤ m ∧ ∀ x ∈ acl, x.p.o.n ≤ 300 ∧ x.p.q.n ≤ 300) :
    Ret Try.prog 15 [.slice A n c, .int .i64 (m : Int)] w (fun z w' => z = .bool false ∧ Below w.heap.size w w') := by
 refine ret_enter Try.func15 rfl rfl rfl ?_
 have H0 := HS.start w
 refine cw_seq ?_
 refine cw_reg ?_
 refine ry (y_asg rfl rfl) rfl rfl ?_
 refine reg_nil ?_
 refine fn_next ?_
 refine cw_seq ?_
 refine cw_seq ?_
 refine cw_reg ?_
 refine ry (y_mov rfl rfl) rfl rfl ?_
 refine ry (y_len rfl Try.underlying38 rfl) rfl rfl ?_
 refine ry (y_mov rfl rfl) rfl rfl ?_
 refine ry (y_gtr rfl rfl rfl) rfl rfl ?_
 refine reg_nil ?_
 refine fn_next ?_
 refine cw_condd rfl (fun h1 => ?_) (fun h1 => ?_)
 · exfalso; omega
 ·skip
  refine cw_skip ?_
  refine fn_next ?_
  refine cw_seq ?_
  refine cw_seq ?_
  refine cw_reg ?_
  refine ry (y_asg rfl rfl) rfl rfl ?_
  refine reg_nil ?_
  refine fn_next ?_
  refine cw_block ?_
  refine cw_loopJ [4, 5, 10, 11, 12, 13, 14, 15, 16, 17, 18, 19, 20, 21, 22, 23, 24, 25, 26, 27, 28, 29, 30, 31, 32, 33] (fun M wl ml => ∃ (i : Nat), M = [(5, .int .i64 (i : Int))] ∧ HS w wl [] ∧ (i ≤ n) ∧ ml = n - i) ⟨0, rfl, H0, Nat.zero_le _, rfl⟩ ⟨rfl, trivial⟩ ?_
  rintro M w2 m4 ⟨i, rfl, H3, hp0, rfl⟩
  refine cw_seq ?_
  refine cw_seq ?_
  refine cw_reg ?_
  refine ry (y_mov rfl rfl) rfl rfl ?_
  refine ry (y_mov rfl rfl) rfl rfl ?_
  refine ry (y_len rfl Try.underlying38 rfl) rfl rfl ?_
  refine ry (y_lss rfl rfl rfl) rfl rfl ?_
  refine reg_nil ?_
  refine fn_next ?_
  refine cw_condd rfl (fun h5 => ?_) (fun h5 => ?_)
  ·skip
   have pq : ∀ (j : Nat) (v : Value), ([.int .u8 (acI acl i).k, .int .i64 (acI acl i).p.x0, .int .i64 (acI acl i).p.y0, .int .i64 (acI acl i).p.x1, .int .i64 (acI acl i).p.y1, .slice (acI acl i).p.o.A (acI acl i).p.o.n (acI acl i).p.o.c, .slice (acI acl i).p.q.A (acI acl i).p.q.n (acI acl i).p.q.c] : List Value)[j]? = some v → (acCells acl)[i * 7 + j]? = some v := ac_get (acI_get (by omega))
   have hs2 := hok.2 _ (acI_mem (l := acl) (i := i) (by omega))
   refine cw_skip ?_
   refine fn_next ?_
   refine cw_seq ?_
   refine cw_block ?_
   refine cw_seq ?_
   refine cw_reg ?_
   refine ry (y_mov rfl rfl) rfl rfl ?_
   refine ry (y_mov rfl rfl) rfl rfl ?_
   refine ry (y_iar (i := i) ((hr.below H3.base)) rfl rfl rfl kfacts_1 (rfl) (by omega) (rfl) (pq 0 _ rfl)) rfl rfl ?_
   refine ry (y_far ((hr.below H3.base)) rfl rfl kfacts_2 rfl (pq 0 _ rfl)) rfl rfl ?_
   refine ry (y_far ((hr.below H3.base)) rfl rfl kfacts_3 rfl (pq 1 _ rfl)) rfl rfl ?_
   refine ry (y_ldr ((hr.below H3.base)) rfl rfl kfacts_4 (pq 5 _ rfl)) rfl rfl ?_
   refine ry (y_len rfl Try.underlying28 rfl) rfl rfl ?_
   refine ry (y_gtr rfl rfl rfl) rfl rfl ?_
   refine ry (y_mov rfl rfl) rfl rfl ?_
   refine rg_splitd (d := 24) rfl (fun h6 => ?_) (fun h6 => ?_)
   · exfalso; omega
   ·skip
    refine rgy (y_mov rfl rfl) rfl rfl rfl rfl ?_
    refine rgy (y_mov rfl rfl) rfl rfl rfl rfl ?_
    refine rgy (y_iar (i := i) ((hr.below H3.base)) rfl rfl rfl kfacts_1 (rfl) (by omega) (rfl) (pq 0 _ rfl)) rfl rfl rfl rfl ?_
    refine rgy (y_far ((hr.below H3.base)) rfl rfl kfacts_2 rfl (pq 0 _ rfl)) rfl rfl rfl rfl ?_
    refine rgy (y_far ((hr.below H3.base)) rfl rfl kfacts_5 rfl (pq 1 _ rfl)) rfl rfl rfl rfl ?_
    refine rgy (y_ldr ((hr.below H3.base)) rfl rfl kfacts_4 (pq 6 _ rfl)) rfl rfl rfl rfl ?_
    refine rgy (y_len rfl Try.underlying28 rfl) rfl rfl rfl rfl ?_
    refine rgy (y_gtr rfl rfl rfl) rfl rfl rfl rfl ?_
    refine ry (y_pick rfl rfl rfl) rfl rfl ?_
    refine reg_nil ?_
    refine fn_next ?_
    refine cw_condd rfl (fun h7 => ?_) (fun h7 => ?_)
    · exfalso; omega
    ·skip
     refine cw_skip ?_
     refine fn_block ?_
     refine fn_next ?_
     refine cw_reg ?_
     refine ry (y_mov rfl rfl) rfl rfl ?_
     refine ry (y_add rfl rfl rfl (wi (by omega))) rfl rfl ?_
     refine ry (y_asg rfl rfl) rfl rfl ?_
     refine reg_nil ?_
     refine fn_roundJ ⟨i + 1, rfl, H3, by omega, rfl⟩ ⟨rfl, trivial⟩ (by omega) (by repeat (first | exact kp_refl | refine kp_app rfl rfl ?_ | refine kp_cons rfl ?_)) rfl
  ·skip
   refine cw_exit ?_
   refine fn_then_exit (fn_then_exit (fn_block_exit ?_))
   refine fn_next ?_
   refine cw_seq ?_
   refine cw_reg ?_
   refine ry (y_asg rfl rfl) rfl rfl ?_
   refine reg_nil ?_
   refine fn_next ?_
   refine cw_ret ?_
   refine fn_ret1 rfl rfl ?_
   first | exact ⟨rfl, H3.base⟩

end Go.Proofs.Ytgkkbeomhkggjaa
