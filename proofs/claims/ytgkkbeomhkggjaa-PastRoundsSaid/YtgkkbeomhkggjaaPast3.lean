/- Layer 35: the past's deeds. -/
import Derived.Test.YtgkkbeomhkggjaaPast2
set_option linter.unusedVariables false
set_option linter.unusedSimpArgs false
namespace Go.Proofs.Ytgkkbeomhkggjaa
open Go Go.RowKit

def vI (l : List Pv) (i : Nat) : Pv := l.getD i ⟨0, 0, 0, 0, [], []⟩
theorem vI_get {l : List Pv} {i : Nat} (h : i < l.length) : l[i]? = some (vI l i) := by unfold vI; rw [List.getD_eq_getElem?_getD, List.getElem?_eq_getElem h]; rfl
theorem vI_mem {l : List Pv} {i : Nat} (h : i < l.length) : vI l i ∈ l := List.mem_of_getElem? (vI_get h)
theorem vI_map {es : List Pt} {i : Nat} (h : i < es.length) : vI (es.map Pt.pv) i = (pI es i).pv := by
  have h1 := vI_get (l := es.map Pt.pv) (i := i) (by rw [List.length_map]; exact h)
  rw [List.getElem?_map, pI_get h] at h1
  simpa using h1.symm
theorem pLen (w0 : World) (l : List Ob) (b : Nat) (vs : List Pv) (d : Nat) (bl : Nat → Prop) (w : World) (hd : d ≤ vs.length) (hb : vs.length ≤ 40) (H0 : HS w0 w (pOb b vs d bl :: l)) : Ret Try.prog 20 [.pointer (some ⟨b, 0, none⟩)] w (fun z w' => ∃ bl', z = .tuple #[.int .i64 (d : Int), .int .i64 ((vs.length - d : Nat) : Int)] ∧ HS w0 w' (pOb b vs d bl' :: l)) := by
  obtain ⟨A, cap, es, rfl, H⟩ := H0.popen
  rw [List.length_map] at hd hb ⊢
  refine Ret.mono (pLen0 w0 l b A cap es d w hd hb H) ?_
  rintro v w' ⟨rfl, k⟩
  obtain ⟨bl', k'⟩ := HS.pclose rfl k
  exact ⟨bl', rfl, k'⟩
theorem pClear (w0 : World) (l : List Ob) (b : Nat) (vs : List Pv) (d : Nat) (bl : Nat → Prop) (w : World) (H0 : HS w0 w (pOb b vs d bl :: l)) : Ret Try.prog 19 [.pointer (some ⟨b, 0, none⟩)] w (fun z w' => ∃ bl', z = .tuple #[] ∧ HS w0 w' (pOb b [] 0 bl' :: l)) := by
  obtain ⟨A, cap, es, rfl, H⟩ := H0.popen
  refine Ret.mono (pClear0 w0 l b A cap es d w H) ?_
  rintro v w' ⟨rfl, k⟩
  obtain ⟨bl', k'⟩ := HS.pclose (es := []) (d := 0) rfl k
  exact ⟨bl', rfl, k'⟩
theorem pBack_no (w0 : World) (l : List Ob) (b : Nat) (vs : List Pv) (bl : Nat → Prop) (w : World) (H0 : HS w0 w (pOb b vs 0 bl :: l)) : Ret Try.prog 12 [.pointer (some ⟨b, 0, none⟩)] w (fun z w' => ∃ bl', z = .tuple #[.agg #[.int .i64 0, .int .i64 0, .int .i64 0, .int .i64 0, .slice none 0 0, .slice none 0 0], .int .i64 15] ∧ HS w0 w' (pOb b vs 0 bl' :: l)) := by
  obtain ⟨A, cap, es, rfl, H⟩ := H0.popen
  refine Ret.mono (pBack0_no w0 l b A cap es w H) ?_
  rintro v w' ⟨rfl, k⟩
  obtain ⟨bl', k'⟩ := HS.pclose rfl k
  exact ⟨bl', rfl, k'⟩
theorem pAgain_no (w0 : World) (l : List Ob) (b : Nat) (vs : List Pv) (d : Nat) (bl : Nat → Prop) (w : World) (hd : d = vs.length) (H0 : HS w0 w (pOb b vs d bl :: l)) : Ret Try.prog 14 [.pointer (some ⟨b, 0, none⟩)] w (fun z w' => ∃ bl', z = .tuple #[.agg #[.int .i64 0, .int .i64 0, .int .i64 0, .int .i64 0, .slice none 0 0, .slice none 0 0], .int .i64 15] ∧ HS w0 w' (pOb b vs d bl' :: l)) := by
  obtain ⟨A, cap, es, rfl, H⟩ := H0.popen
  rw [List.length_map] at hd
  subst hd
  refine Ret.mono (pAgain0_no w0 l b A cap es w H) ?_
  rintro v w' ⟨rfl, k⟩
  obtain ⟨bl', k'⟩ := HS.pclose rfl k
  exact ⟨bl', rfl, k'⟩
theorem pDid_no (w0 : World) (l : List Ob) (b : Nat) (vs : List Pv) (d : Nat) (bl : Nat → Prop) (p : Pt) (w : World) (hp : ∀ X, HS w0 X l → p.ok X) (mo : p.o.n ≤ 16777216) (mq : p.q.n ≤ 16777216) (hno : ¬ (p.rightP ∧ 0 < p.o.n)) (H0 : HS w0 w (pOb b vs d bl :: l)) : Ret Try.prog 10 [.pointer (some ⟨b, 0, none⟩), .agg #[.int .i64 p.x0, .int .i64 p.y0, .int .i64 p.x1, .int .i64 p.y1, .slice p.o.A p.o.n p.o.c, .slice p.q.A p.q.n p.q.c]] w (fun z w' => ∃ bl', z = .int .i64 (if p.rightP then 0 else 13) ∧ HS w0 w' (pOb b vs d bl' :: l)) := by
  obtain ⟨A, cap, es, rfl, H⟩ := H0.popen
  refine Ret.mono (pDid0_no w0 l b A cap es d p w hp mo mq hno H) ?_
  rintro v w' ⟨rfl, k⟩
  obtain ⟨bl', k'⟩ := HS.pclose rfl k
  exact ⟨bl', rfl, k'⟩
theorem pDid_ok (w0 : World) (l : List Ob) (b : Nat) (vs : List Pv) (d : Nat) (bl : Nat → Prop) (p : Pt) (w : World) (hp : ∀ X, HS w0 X l → p.ok X) (mo : p.o.n ≤ 16777216) (mq : p.q.n ≤ 16777216) (hr : p.rightP) (ho : 0 < p.o.n) (hd : d ≤ vs.length) (hb : vs.length ≤ 40) (H0 : HS w0 w (pOb b vs d bl :: l)) : Ret Try.prog 10 [.pointer (some ⟨b, 0, none⟩), .agg #[.int .i64 p.x0, .int .i64 p.y0, .int .i64 p.x1, .int .i64 p.y1, .slice p.o.A p.o.n p.o.c, .slice p.q.A p.q.n p.q.c]] w (fun z w' => ∃ bl', z = .int .i64 0 ∧ HS w0 w' (pOb b (pvDid vs d p.pv) (pvDid vs d p.pv).length bl' :: l)) := by
  obtain ⟨A, cap, es, rfl, H⟩ := H0.popen
  rw [List.length_map] at hd hb
  have key : Ret Try.prog 10 [.pointer (some ⟨b, 0, none⟩), .agg #[.int .i64 p.x0, .int .i64 p.y0, .int .i64 p.x1, .int .i64 p.y1, .slice p.o.A p.o.n p.o.c, .slice p.q.A p.q.n p.q.c]] w (fun z w' => ∃ A' cap' es', es'.map Pt.pv = pvDid (es.map Pt.pv) d p.pv ∧ z = .int .i64 0 ∧ HS w0 w' (Ob.blk b [.slice A' es'.length cap', .int .i64 (es'.length : Int)] 79 :: Ob.row A' es'.length cap' (ptCells es') 30 6 :: obA Pt.obs es' :: l)) := by
    by_cases h : d < 40
    · exact pDid0_ok w0 l b A cap es d p w hp mo mq hr ho hd hb h H
    · exact pDid0_hi w0 l b A cap es d p w hp mo mq hr ho hd hb (by omega) H
  refine Ret.mono key ?_
  rintro v w' ⟨A', cap', es', e, rfl, k⟩
  obtain ⟨bl', k'⟩ := HS.pclose e k
  refine ⟨bl', rfl, ?_⟩
  rw [← e, List.length_map]
  rw [e]; exact k'
theorem pBack_ok (w0 : World) (l : List Ob) (b : Nat) (vs : List Pv) (d : Nat) (bl : Nat → Prop) (w : World) (hd : d + 1 ≤ vs.length) (hb : vs.length ≤ 40) (hv : ∀ v ∈ vs, v.ok) (H0 : HS w0 w (pOb b vs (d + 1) bl :: l)) : Ret Try.prog 12 [.pointer (some ⟨b, 0, none⟩)] w (fun z w' => ∃ A1 c1 A2 c2 bl', z = .tuple #[.agg #[.int .i64 (vI vs d).x0, .int .i64 (vI vs d).y0, .int .i64 (vI vs d).x1, .int .i64 (vI vs d).y1, .slice A1 (vI vs d).q.length c1, .slice A2 (vI vs d).o.length c2], .int .i64 0] ∧ HS w0 w' (Ob.row A1 (vI vs d).q.length c1 (vi .i64 (vI vs d).q) 2 1 :: Ob.row A2 (vI vs d).o.length c2 (vi .i64 (vI vs d).o) 2 1 :: pOb b vs d bl' :: l)) := by
  obtain ⟨A, cap, es, rfl, H⟩ := H0.popen
  rw [List.length_map] at hd hb
  have hv' : ∀ x ∈ es, x.pv.ok := fun x hx => hv _ (List.mem_map_of_mem hx)
  have hok := HS.ptokA (HS.pickT (p := [_, _, _]) (m := [_]) H [2] rfl (by decide)) (pI_mem (l := es) (i := d) (by omega)) (hv' _ (pI_mem (by omega)))
  rw [vI_map (by omega)]
  refine Ret.mono (pBack0_ok w0 l b A cap es d w hd hb hv' H) ?_
  rintro v w' ⟨A1, c1, A2, c2, rfl, k⟩
  obtain ⟨bl', k'⟩ := HS.pclose rfl (k.pickT (p := [_, _, _, _, _]) (m := [_, _, _, _, _]) [2, 3, 4, 0, 1] rfl (by decide))
  refine ⟨A1, c1, A2, c2, bl', ?_, ?_⟩
  · show _ = Value.tuple #[.agg #[_, _, _, _, .slice A1 (pI es d).q.zs.length c1, .slice A2 (pI es d).o.zs.length c2], _]
    rw [hok.hq.len, hok.ho.len]; rfl
  · show HS w0 w' (Ob.row A1 (pI es d).q.zs.length c1 (vi .i64 (pI es d).q.zs) 2 1 :: Ob.row A2 (pI es d).o.zs.length c2 (vi .i64 (pI es d).o.zs) 2 1 :: _)
    rw [hok.hq.len, hok.ho.len]
    exact k'.pickT (p := [_, _, _]) (m := [_, _, _]) [1, 2, 0] rfl (by decide)
theorem pAgain_ok (w0 : World) (l : List Ob) (b : Nat) (vs : List Pv) (d : Nat) (bl : Nat → Prop) (w : World) (hd : d + 1 ≤ vs.length) (hb : vs.length ≤ 40) (hv : ∀ v ∈ vs, v.ok) (H0 : HS w0 w (pOb b vs d bl :: l)) : Ret Try.prog 14 [.pointer (some ⟨b, 0, none⟩)] w (fun z w' => ∃ A1 c1 A2 c2 bl', z = .tuple #[.agg #[.int .i64 (vI vs d).x0, .int .i64 (vI vs d).y0, .int .i64 (vI vs d).x1, .int .i64 (vI vs d).y1, .slice A1 (vI vs d).o.length c1, .slice A2 (vI vs d).q.length c2], .int .i64 0] ∧ HS w0 w' (Ob.row A1 (vI vs d).o.length c1 (vi .i64 (vI vs d).o) 2 1 :: Ob.row A2 (vI vs d).q.length c2 (vi .i64 (vI vs d).q) 2 1 :: pOb b vs (d + 1) bl' :: l)) := by
  obtain ⟨A, cap, es, rfl, H⟩ := H0.popen
  rw [List.length_map] at hd hb
  have hv' : ∀ x ∈ es, x.pv.ok := fun x hx => hv _ (List.mem_map_of_mem hx)
  have hok := HS.ptokA (HS.pickT (p := [_, _, _]) (m := [_]) H [2] rfl (by decide)) (pI_mem (l := es) (i := d) (by omega)) (hv' _ (pI_mem (by omega)))
  rw [vI_map (by omega)]
  refine Ret.mono (pAgain0_ok w0 l b A cap es d w hd hb hv' H) ?_
  rintro v w' ⟨A1, c1, A2, c2, rfl, k⟩
  obtain ⟨bl', k'⟩ := HS.pclose rfl (k.pickT (p := [_, _, _, _, _]) (m := [_, _, _, _, _]) [2, 3, 4, 0, 1] rfl (by decide))
  refine ⟨A1, c1, A2, c2, bl', ?_, ?_⟩
  · show _ = Value.tuple #[.agg #[_, _, _, _, .slice A1 (pI es d).o.zs.length c1, .slice A2 (pI es d).q.zs.length c2], _]
    rw [hok.hq.len, hok.ho.len]; rfl
  · show HS w0 w' (Ob.row A1 (pI es d).o.zs.length c1 (vi .i64 (pI es d).o.zs) 2 1 :: Ob.row A2 (pI es d).q.zs.length c2 (vi .i64 (pI es d).q.zs) 2 1 :: _)
    rw [hok.hq.len, hok.ho.len]
    exact k'.pickT (p := [_, _, _]) (m := [_, _, _]) [1, 2, 0] rfl (by decide)

end Go.Proofs.Ytgkkbeomhkggjaa
