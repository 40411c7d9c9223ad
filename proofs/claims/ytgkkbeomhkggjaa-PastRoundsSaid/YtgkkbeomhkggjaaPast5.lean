/- Layer 35: the past and its reference, whatever they hold. -/
import Derived.Test.YtgkkbeomhkggjaaPast4
import Derived.Test.YtgkkbeomhkggjaaLaw35
set_option linter.unusedVariables false
set_option linter.unusedSimpArgs false
namespace Go.Proofs.Ytgkkbeomhkggjaa
open Go Go.RowKit

def dN (ds : List Pt) (p : Pt) : List Pt := if p.rightP ∧ 0 < p.o.n then mdDid ds p else ds
def uN (us : List Pt) (p : Pt) : List Pt := if p.rightP ∧ 0 < p.o.n then [] else us
def zPv : Pv := ⟨0, 0, 0, 0, [], []⟩
def bD (ds : List Pt) : List Pt := ds.take (ds.length - 1)
def bU (ds us : List Pt) : List Pt := if ds.length = 0 then us else pI ds (ds.length - 1) :: us
def bV (ds : List Pt) : Pv := if ds.length = 0 then zPv else (pI ds (ds.length - 1)).pv.back
def bC (ds : List Pt) : Int := if ds.length = 0 then 15 else 0
def aD (ds us : List Pt) : List Pt := ds ++ us.take 1
def aV (us : List Pt) : Pv := if us.length = 0 then zPv else (pI us 0).pv
theorem pt_last {ds : List Pt} {n : Nat} (h : ds.length = n + 1) : ds = ds.take n ++ [pI ds n] := by
  have h1 := pI_get (l := ds) (i := n) (by omega)
  obtain ⟨hn, e⟩ := List.getElem?_eq_some_iff.1 h1
  rw [← e, List.take_append_getElem hn, List.take_of_length_le (by omega)]
theorem pt_first {us : List Pt} (h : 0 < us.length) : us = pI us 0 :: us.drop 1 := by
  cases us with
  | nil => simp at h
  | cons x us => rfl
theorem bDU {ds us : List Pt} : bD ds ++ bU ds us = ds ++ us := by
  unfold bD bU
  split
  · rename_i h
    rw [List.length_eq_zero_iff.1 h]; rfl
  · rename_i h
    obtain ⟨n, hn⟩ : ∃ n, ds.length = n + 1 := ⟨ds.length - 1, by omega⟩
    rw [hn, Nat.add_sub_cancel]
    conv => rhs; rw [pt_last hn]
    simp
theorem aDU {ds us : List Pt} : aD ds us ++ us.drop 1 = ds ++ us := by unfold aD; rw [List.append_assoc, List.take_append_drop]
theorem dN_len {ds : List Pt} {p : Pt} (h : ds.length ≤ 40) : (dN ds p).length ≤ 40 := by
  unfold dN; split
  · rw [mdDid_len h]; split <;> omega
  · exact h
theorem mem_mdDid {ds : List Pt} {p x : Pt} (h : x ∈ mdDid ds p) : x ∈ ds ∨ x = p := by
  unfold mdDid at h
  split at h
  · rcases List.mem_append.1 h with q | q
    · exact .inl q
    · exact .inr (List.mem_singleton.1 q)
  · rcases List.mem_append.1 (List.mem_of_mem_drop h) with q | q
    · exact .inl q
    · exact .inr (List.mem_singleton.1 q)
theorem mem_dN {ds us : List Pt} {p x : Pt} (h : x ∈ dN ds p ++ uN us p) : x ∈ ds ++ us ∨ x = p := by
  unfold dN uN at h
  split at h
  · rw [List.append_nil] at h
    rcases mem_mdDid h with q | q
    · exact .inl (List.mem_append_left _ q)
    · exact .inr q
  · exact .inl h
theorem right_empty {p : Pt} (h : p.rightP) : p.emptyP ↔ ¬ 0 < p.o.n := by
  constructor
  · intro e; unfold Pt.emptyP at e; omega
  · intro e
    rcases h with h | h
    · exact h
    · have h1 := h.2.1.1
      have h2 := h.1
      unfold areaI at h1
      rw [if_pos h2] at h1
      unfold RightP at h2
      have h3 : 1 ≤ p.x1 - p.x0 + 1 := by omega
      have h4 : 1 ≤ p.y1 - p.y0 + 1 := by omega
      have h5 : 1 * 1 ≤ (p.x1 - p.x0 + 1) * (p.y1 - p.y0 + 1) := Int.mul_le_mul h3 h4 (by omega) (by omega)
      omega
theorem pDid_any (w0 : World) (l : List Ob) (b : Nat) (ds us : List Pt) (bl : Nat → Prop) (p : Pt) (w : World) (hp : ∀ X, HS w0 X l → p.ok X) (mo : p.o.n ≤ 16777216) (mq : p.q.n ≤ 16777216) (hb : (ds ++ us).length ≤ 40) (H0 : HS w0 w (pOb b ((ds ++ us).map Pt.pv) (ds).length bl :: l)) : Ret Try.prog 10 [.pointer (some ⟨b, 0, none⟩), .agg #[.int .i64 p.x0, .int .i64 p.y0, .int .i64 p.x1, .int .i64 p.y1, .slice p.o.A p.o.n p.o.c, .slice p.q.A p.q.n p.q.c]] w (fun z w' => ∃ bl', z = .int .i64 (if p.rightP then 0 else 13) ∧ HS w0 w' (pOb b ((dN ds p ++ uN us p).map Pt.pv) (dN ds p).length bl' :: l)) := by
  rw [List.length_append] at hb
  by_cases hc : p.rightP ∧ 0 < p.o.n
  · have e1 : dN ds p = mdDid ds p := if_pos hc
    have e2 : uN us p = [] := if_pos hc
    rw [e1, e2, if_pos hc.1]
    refine pDidE w0 l b _ _ bl p _ _ w hp mo mq hc.1 hc.2 (by rw [List.length_map, List.length_append]; omega) (by rw [List.length_map, List.length_append]; omega) ?_ (by rw [List.append_nil, List.length_map]) H0
    unfold pvDid mdDid
    rw [← List.map_take, List.take_left' rfl, List.append_nil]
    split
    · rw [List.map_append]; rfl
    · rw [List.map_drop, List.map_append]; rfl
  · have e1 : dN ds p = ds := if_neg hc
    have e2 : uN us p = us := if_neg hc
    rw [e1, e2]
    exact pDid_no w0 l b _ _ bl p w hp mo mq hc H0
theorem pBack_any (w0 : World) (l : List Ob) (b : Nat) (ds us : List Pt) (bl : Nat → Prop) (w : World) (hv : ∀ x ∈ ds ++ us, x.pv.ok) (hb : (ds ++ us).length ≤ 40) (H0 : HS w0 w (pOb b ((ds ++ us).map Pt.pv) (ds).length bl :: l)) : Ret Try.prog 12 [.pointer (some ⟨b, 0, none⟩)] w (fun z w' => ∃ A1 c1 A2 c2 bl', z = .tuple #[.agg #[.int .i64 (bV ds).x0, .int .i64 (bV ds).y0, .int .i64 (bV ds).x1, .int .i64 (bV ds).y1, .slice A1 (bV ds).o.length c1, .slice A2 (bV ds).q.length c2], .int .i64 (bC ds)] ∧ HS w0 w' (Ob.row A1 (bV ds).o.length c1 (vi .i64 (bV ds).o) 2 1 :: Ob.row A2 (bV ds).q.length c2 (vi .i64 (bV ds).q) 2 1 :: pOb b ((bD ds ++ bU ds us).map Pt.pv) (bD ds).length bl' :: l)) := by
  have hb' := hb
  rw [List.length_append] at hb'
  have hvv : ∀ v ∈ (ds ++ us).map Pt.pv, v.ok := fun v hv' => by
    obtain ⟨x, hx, rfl⟩ := List.mem_map.1 hv'
    exact hv x hx
  by_cases hz : ds.length = 0
  · have e1 : bV ds = zPv := if_pos hz
    have e2 : bC ds = 15 := if_pos hz
    have e3 : (bD ds).length = 0 := by unfold bD; rw [List.length_take]; omega
    rw [e1, e2, bDU, e3]
    rw [hz] at H0
    refine Ret.mono (pBack_no w0 l b _ bl w H0) ?_
    rintro v w' ⟨bl', rfl, k⟩
    exact ⟨none, 0, none, 0, bl', rfl, (k.nilrow _ 1).nilrow _ 1⟩
  · obtain ⟨n, hn⟩ : ∃ n, ds.length = n + 1 := ⟨ds.length - 1, by omega⟩
    have e1 : bV ds = (pI ds n).pv.back := by unfold bV; rw [if_neg hz, hn]; rfl
    have e2 : bC ds = 0 := if_neg hz
    have e3 : (bD ds).length = n := by unfold bD; rw [List.length_take]; omega
    rw [e1, e2, bDU, e3]
    rw [hn] at H0
    have e4 : vI ((ds ++ us).map Pt.pv) n = (pI ds n).pv := by
      rw [vI_map (by rw [List.length_append]; omega)]
      congr 1
      unfold pI
      rw [List.getD_eq_getElem?_getD, List.getD_eq_getElem?_getD, List.getElem?_append_left (by omega)]
    have h1 := pBack_ok w0 l b ((ds ++ us).map Pt.pv) n bl w (by rw [List.length_map, List.length_append]; omega) (by rw [List.length_map]; exact hb) hvv H0
    rw [e4] at h1
    exact h1
theorem pAgain_any (w0 : World) (l : List Ob) (b : Nat) (ds us : List Pt) (bl : Nat → Prop) (w : World) (hv : ∀ x ∈ ds ++ us, x.pv.ok) (hb : (ds ++ us).length ≤ 40) (H0 : HS w0 w (pOb b ((ds ++ us).map Pt.pv) (ds).length bl :: l)) : Ret Try.prog 14 [.pointer (some ⟨b, 0, none⟩)] w (fun z w' => ∃ A1 c1 A2 c2 bl', z = .tuple #[.agg #[.int .i64 (aV us).x0, .int .i64 (aV us).y0, .int .i64 (aV us).x1, .int .i64 (aV us).y1, .slice A1 (aV us).o.length c1, .slice A2 (aV us).q.length c2], .int .i64 (bC us)] ∧ HS w0 w' (Ob.row A1 (aV us).o.length c1 (vi .i64 (aV us).o) 2 1 :: Ob.row A2 (aV us).q.length c2 (vi .i64 (aV us).q) 2 1 :: pOb b ((aD ds us ++ us.drop 1).map Pt.pv) (aD ds us).length bl' :: l)) := by
  have hb' := hb
  rw [List.length_append] at hb'
  have hvv : ∀ v ∈ (ds ++ us).map Pt.pv, v.ok := fun v hv' => by
    obtain ⟨x, hx, rfl⟩ := List.mem_map.1 hv'
    exact hv x hx
  by_cases hz : us.length = 0
  · have e1 : aV us = zPv := if_pos hz
    have e2 : bC us = 15 := if_pos hz
    have e3 : (aD ds us).length = ds.length := by unfold aD; rw [List.length_append, List.length_take]; omega
    rw [e1, e2, aDU, e3]
    refine Ret.mono (pAgain_no w0 l b _ _ bl w (by rw [List.length_map, List.length_append]; omega) H0) ?_
    rintro v w' ⟨bl', rfl, k⟩
    exact ⟨none, 0, none, 0, bl', rfl, (k.nilrow _ 1).nilrow _ 1⟩
  · have e1 : aV us = (pI us 0).pv := if_neg hz
    have e2 : bC us = 0 := if_neg hz
    have e3 : (aD ds us).length = ds.length + 1 := by unfold aD; rw [List.length_append, List.length_take]; omega
    rw [e1, e2, aDU, e3]
    have e4 : vI ((ds ++ us).map Pt.pv) ds.length = (pI us 0).pv := by
      rw [vI_map (by rw [List.length_append]; omega)]
      congr 1
      unfold pI
      rw [List.getD_eq_getElem?_getD, List.getD_eq_getElem?_getD, List.getElem?_append_right (Nat.le_refl _), Nat.sub_self]
    have h1 := pAgain_ok w0 l b ((ds ++ us).map Pt.pv) ds.length bl w (by rw [List.length_map, List.length_append]; omega) (by rw [List.length_map]; exact hb) hvv H0
    rw [e4] at h1
    exact h1
theorem mdDid_any (w0 : World) (r l : List Ob) (DA : Option Addr) (dc : Nat) (ds : List Pt) (UA : Option Addr) (uc : Nat) (us : List Pt) (p : Pt) (w : World) (hp : p.ok w0) (mo : p.o.n ≤ 16777216) (mq : p.q.n ≤ 16777216) (hD : ∀ X, HS w0 X l → Rd X DA (ptCells ds)) (hU : ∀ X, HS w0 X l → Rd X UA (ptCells us)) (hdc : ds.length ≤ dc) (huc : us.length ≤ uc) (hbd : ds.length ≤ 40) (hbu : us.length ≤ 40) (H0 : HS w0 w (r ++ l)) : Ret Try.prog 16 [.agg #[.slice DA ds.length dc, .slice UA us.length uc], .agg #[.int .i64 p.x0, .int .i64 p.y0, .int .i64 p.x1, .int .i64 p.y1, .slice p.o.A p.o.n p.o.c, .slice p.q.A p.q.n p.q.c]] w (fun z w' => ∃ A' c' U' u' l', z = .tuple #[.agg #[.slice A' (dN ds p).length c', .slice U' (uN us p).length u'], .int .i64 (if p.rightP then 0 else 13)] ∧ (dN ds p).length ≤ c' ∧ (uN us p).length ≤ u' ∧ (∀ X, HS w0 X l' → Rd X A' (ptCells (dN ds p))) ∧ (∀ X, HS w0 X l' → Rd X U' (ptCells (uN us p))) ∧ HS w0 w' (r ++ l')) := by
  by_cases hc : p.rightP ∧ 0 < p.o.n
  · have e1 : dN ds p = mdDid ds p := if_pos hc
    have e2 : uN us p = [] := if_pos hc
    rw [e1, e2, if_pos hc.1]
    have hne : ¬ p.emptyP := fun e => (right_empty hc.1).1 e hc.2
    have key : Ret Try.prog 16 [.agg #[.slice DA ds.length dc, .slice UA us.length uc], .agg #[.int .i64 p.x0, .int .i64 p.y0, .int .i64 p.x1, .int .i64 p.y1, .slice p.o.A p.o.n p.o.c, .slice p.q.A p.q.n p.q.c]] w (fun z w' => ∃ A' c' o, z = .tuple #[.agg #[.slice A' (mdDid ds p).length c', .slice none 0 0], .int .i64 0] ∧ (mdDid ds p).length ≤ c' ∧ (∀ X, HS w0 X (o :: l) → Rd X A' (ptCells (mdDid ds p))) ∧ HS w0 w' (r ++ (o :: l))) := by
      by_cases h : ds.length < 40
      · exact mdDid_ok w0 r l DA dc ds UA uc us p w hp mo mq hc.1 hne h hD hU hdc huc hbd hbu H0
      · exact mdDid_hi w0 r l DA dc ds UA uc us p w hp mo mq hc.1 hne (by omega) hD hU hdc huc hbd hbu H0
    refine Ret.mono key ?_
    rintro v w' ⟨A', c', o, rfl, h1, h2, k⟩
    exact ⟨A', c', none, 0, o :: l, rfl, h1, Nat.le_refl _, h2, fun X _ => fun j u hu => by simp [ptCells] at hu, k⟩
  · have e1 : dN ds p = ds := if_neg hc
    have e2 : uN us p = us := if_neg hc
    rw [e1, e2]
    have hno : ¬ (p.rightP ∧ ¬ p.emptyP) := fun q => hc ⟨q.1, Classical.byContradiction fun h => q.2 ((right_empty q.1).2 h)⟩
    refine Ret.mono (mdDid_no w0 r l DA dc ds UA uc us p w hp mo mq hno hD hU hdc huc hbd hbu H0) ?_
    rintro v w' ⟨rfl, k⟩
    exact ⟨DA, dc, UA, uc, l, rfl, hdc, huc, hD, hU, k⟩
theorem mdBack_any (w0 : World) (r l : List Ob) (DA : Option Addr) (dc : Nat) (ds : List Pt) (UA : Option Addr) (uc : Nat) (us : List Pt) (w : World) (hall : ∀ x ∈ ds, x.ok w0) (hD : ∀ X, HS w0 X l → Rd X DA (ptCells ds)) (hU : ∀ X, HS w0 X l → Rd X UA (ptCells us)) (hdc : ds.length ≤ dc) (huc : us.length ≤ uc) (hbd : ds.length ≤ 40) (hbu : us.length ≤ 40) (H0 : HS w0 w (r ++ l)) : Ret Try.prog 17 [.agg #[.slice DA ds.length dc, .slice UA us.length uc]] w (fun z w' => ∃ A' c' U' u' A1 c1 A2 c2 l', z = .tuple #[.agg #[.slice A' (bD ds).length c', .slice U' (bU ds us).length u'], .agg #[.int .i64 (bV ds).x0, .int .i64 (bV ds).y0, .int .i64 (bV ds).x1, .int .i64 (bV ds).y1, .slice A1 (bV ds).o.length c1, .slice A2 (bV ds).q.length c2], .int .i64 (bC ds)] ∧ (bD ds).length ≤ c' ∧ (bU ds us).length ≤ u' ∧ (∀ X, HS w0 X l' → Rd X A' (ptCells (bD ds))) ∧ (∀ X, HS w0 X l' → Rd X U' (ptCells (bU ds us))) ∧ (∀ X, HS w0 X l' → Rd X A1 (vi .i64 (bV ds).o)) ∧ (∀ X, HS w0 X l' → Rd X A2 (vi .i64 (bV ds).q)) ∧ HS w0 w' (r ++ l')) := by
  by_cases hz : ds.length = 0
  · have e1 : bV ds = zPv := if_pos hz
    have e2 : bC ds = 15 := if_pos hz
    have e3 : bD ds = ds := by unfold bD; rw [List.take_of_length_le (by omega)] <;> rw [List.length_eq_zero_iff.1 hz]
    have e4 : bU ds us = us := if_pos hz
    rw [e1, e2, e3, e4]
    refine Ret.mono (mdBack_no w0 r l DA dc ds UA uc us w hD hU hdc huc hbd hbu H0 hz) ?_
    rintro v w' ⟨rfl, k⟩
    exact ⟨DA, dc, UA, uc, none, 0, none, 0, l, rfl, hdc, huc, hD, hU, fun X _ j u hu => by simp [vi, zPv] at hu, fun X _ j u hu => by simp [vi, zPv] at hu, k⟩
  · obtain ⟨n, hn⟩ : ∃ n, ds.length = n + 1 := ⟨ds.length - 1, by omega⟩
    have e1 : bV ds = (pI ds n).pv.back := by unfold bV; rw [if_neg hz, hn]; rfl
    have e2 : bC ds = 0 := if_neg hz
    have e3 : bD ds = ds.take n := by unfold bD; rw [hn]; rfl
    have e4 : bU ds us = pI ds n :: us := by unfold bU; rw [if_neg hz, hn]; rfl
    have e5 : (ds.take n).length = n := by rw [List.length_take]; omega
    have hx := hall _ (pI_mem (l := ds) (i := n) (by omega))
    have q1 : (pI ds n).pv.back.o.length = (pI ds n).q.n := hx.hq.len
    have q2 : (pI ds n).pv.back.q.length = (pI ds n).o.n := hx.ho.len
    rw [e1, e2, e3, e4, e5, q1, q2]
    refine Ret.mono (mdBack_ok w0 r l DA dc ds UA uc us n w hD hU hdc huc hbd hbu H0 hn hall) ?_
    rintro v w' ⟨A', c', o, rfl, h1, h2, k⟩
    refine ⟨DA, dc, A', c', (pI ds n).q.A, (pI ds n).q.c, (pI ds n).o.A, (pI ds n).o.c, o :: l, rfl, by omega, h1, fun X HX => ?_, h2, fun X HX => (hx.below HX.base).hq.rd, fun X HX => (hx.below HX.base).ho.rd, k⟩
    rw [← ptCells_take]
    exact (hD X HX.tail).take _
theorem mdAgain_any (w0 : World) (r l : List Ob) (DA : Option Addr) (dc : Nat) (ds : List Pt) (UA : Option Addr) (uc : Nat) (us : List Pt) (w : World) (hall : ∀ x ∈ us, x.ok w0) (hD : ∀ X, HS w0 X l → Rd X DA (ptCells ds)) (hU : ∀ X, HS w0 X l → Rd X UA (ptCells us)) (hdc : ds.length ≤ dc) (huc : us.length ≤ uc) (hbd : ds.length ≤ 40) (hbu : us.length ≤ 40) (H0 : HS w0 w (r ++ l)) : Ret Try.prog 18 [.agg #[.slice DA ds.length dc, .slice UA us.length uc]] w (fun z w' => ∃ A' c' U' u' A1 c1 A2 c2 l', z = .tuple #[.agg #[.slice A' (aD ds us).length c', .slice U' (us.drop 1).length u'], .agg #[.int .i64 (aV us).x0, .int .i64 (aV us).y0, .int .i64 (aV us).x1, .int .i64 (aV us).y1, .slice A1 (aV us).o.length c1, .slice A2 (aV us).q.length c2], .int .i64 (bC us)] ∧ (aD ds us).length ≤ c' ∧ (us.drop 1).length ≤ u' ∧ (∀ X, HS w0 X l' → Rd X A' (ptCells (aD ds us))) ∧ (∀ X, HS w0 X l' → Rd X U' (ptCells (us.drop 1))) ∧ (∀ X, HS w0 X l' → Rd X A1 (vi .i64 (aV us).o)) ∧ (∀ X, HS w0 X l' → Rd X A2 (vi .i64 (aV us).q)) ∧ HS w0 w' (r ++ l')) := by
  by_cases hz : us.length = 0
  · have e1 : aV us = zPv := if_pos hz
    have e2 : bC us = 15 := if_pos hz
    have e3 : us.drop 1 = us := by rw [List.length_eq_zero_iff.1 hz]; rfl
    have e4 : aD ds us = ds := by unfold aD; rw [List.length_eq_zero_iff.1 hz]; simp
    rw [e1, e2, e3, e4]
    refine Ret.mono (mdAgain_no w0 r l DA dc ds UA uc us w hD hU hdc huc hbd hbu H0 hz) ?_
    rintro v w' ⟨rfl, k⟩
    exact ⟨DA, dc, UA, uc, none, 0, none, 0, l, rfl, hdc, huc, hD, hU, fun X _ j u hu => by simp [vi, zPv] at hu, fun X _ j u hu => by simp [vi, zPv] at hu, k⟩
  · have e1 : aV us = (pI us 0).pv := if_neg hz
    have e2 : bC us = 0 := if_neg hz
    have e4 : aD ds us = ds ++ [pI us 0] := by
      unfold aD
      congr 1
      conv => lhs; rw [pt_first (us := us) (by omega)]
      rfl
    have hx := hall _ (pI_mem (l := us) (i := 0) (by omega))
    have q1 : (pI us 0).pv.o.length = (pI us 0).o.n := hx.ho.len
    have q2 : (pI us 0).pv.q.length = (pI us 0).q.n := hx.hq.len
    have q3 : (ds ++ [pI us 0]).length = ds.length + 1 := by simp
    rw [e1, e2, e4, q1, q2, q3, List.length_drop]
    refine Ret.mono (mdAgain_ok w0 r l DA dc ds UA uc us w hD hU hdc huc hbd hbu H0 (by omega) hall) ?_
    rintro v w' ⟨A', c', o, rfl, h1, h2, k⟩
    refine ⟨A', c', subA UA uc 1 6, uc - 1, (pI us 0).o.A, (pI us 0).o.c, (pI us 0).q.A, (pI us 0).q.c, o :: l, rfl, h1, by omega, h2, fun X HX => ?_, fun X HX => (hx.below HX.base).ho.rd, fun X HX => (hx.below HX.base).hq.rd, k⟩
    have h3 := Rd.slice (size := 6) (lo := 1) (hi := us.length) (hU X HX.tail) (by omega) huc
    rw [ptCells_take, ptCells_drop, List.take_length] at h3
    exact h3

end Go.Proofs.Ytgkkbeomhkggjaa
