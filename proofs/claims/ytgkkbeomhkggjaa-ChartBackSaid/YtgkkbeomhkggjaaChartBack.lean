/- The statement ChartBackSaid: for every input the law returns true, and each argument reads behind the call as it read before; no condition. -/
import Derived.Test.YtgkkbeomhkggjaaRows
import Derived.Test.YtgkkbeomhkggjaaLaw34b
import Derived.WalkKit
import Derived.ProofKit
import Derived.OpenShut
import Derived.ShutString
import Derived.ChangeOld
import Derived.Below
import Derived.Lib.SmallJoins
import Derived.DataShut
set_option linter.unusedVariables false
set_option linter.unusedSimpArgs false
namespace Go.Proofs.Ytgkkbeomhkggjaa.chartBack
open Go.ChangeShapes Go.WideShapes Go.ChangeAt Go.RowKit Go.Joins
open Go.ChangeMaps (open_string shut_string)
set_option linter.unusedVariables false

theorem own : ownKnob Try.prog.godebug = none := by kernel_rfl
theorem laidOut : laidOutB Try.prog = true := by kernel_rfl
theorem wf_bd {a : Int} (h : (Lit.int .i64 a).wf = true) : -9223372036854775808 ≤ a ∧ a ≤ 9223372036854775807 := by
  rw [Lit.wf_int_iff, show IntKind.i64.min = -9223372036854775808 from by decide, show IntKind.i64.max = 9223372036854775807 from by decide] at h
  exact h
theorem wf_i64 {a : Int} (h : (Lit.int .i64 a).wf = true) : -9223372036854775808 ≤ a ∧ a ≤ 9223372036854775807 := wf_bd h
theorem wf_u64 {a : Int} (h : (Lit.int .u64 a).wf = true) : 0 ≤ a ∧ a ≤ 18446744073709551615 := by
  rw [Lit.wf_int_iff, show IntKind.u64.min = 0 from by decide, show IntKind.u64.max = 18446744073709551615 from by decide] at h
  exact h
theorem wf_u8 {a : Int} (h : (Lit.int .u8 a).wf = true) : 0 ≤ a ∧ a ≤ 255 := by
  rw [Lit.wf_int_iff, show IntKind.u8.min = 0 from by decide, show IntKind.u8.max = 255 from by decide] at h
  exact h
set_option maxRecDepth 100000 in
theorem lifted (os : Os) (started : os.Started) (H : Type) (enc : TypeId × Value → H) :
    ReturnsInHanded {} Try.checked os 6 .any (Rows.chartBackSpec.pre6 enc Try.prog Try.f6 Rows.chartBackRow.domain false) (Rows.chartBackSpec.post enc Try.prog Try.f6 false true false false) := by
  refine returnsInHanded_of_change (C := Try.checked) own started (by kernel_rfl) Try.func6
    (ChangeSpec.witness6 (enc := enc) (C := Try.checked) false ⟨#[], #[.int .i64 0, .int .i64 0, .slice none 0 0, .agg #[.int .i64 0, .int .i64 0, .int .i64 0, .int .i64 0], .slice none 0 0], []⟩ 8 (by kernel_rfl) (by kernel_rfl) (by kernel_rfl) (by kernel_rfl)) ?_
  intro W base args ds gs before hval0 hW hcnd _
  have hval : ∀ (j : Nat) t v, Try.f6.params[j]? = some t → args[j]? = some v → Value.okWide Try.prog W .any base t v := hval0
  have hW' := hW
  obtain ⟨p, q, hA0, hV, rfl, hfz, hnd⟩ := hW
  have hA : DataW.TrodAll enc Try.prog W 0 (fun _ => true) true Try.f6.params.toList args.toList ds p := hA0
  rw [Try.params6] at hA hval
  obtain ⟨v0, vs0, d0, ds0, p0, q0, hargs, rfl, rfl, h0, r0⟩ := trodAll_cons hA
  obtain ⟨v1, vs1, d1, ds1, p1, q1, rfl, rfl, rfl, h1, r1⟩ := trodAll_cons r0
  obtain ⟨v2, vs2, d2, ds2, p2, q2, rfl, rfl, rfl, h2, r2⟩ := trodAll_cons r1
  obtain ⟨v3, vs3, d3, ds3, p3, q3, rfl, rfl, rfl, h3, r3⟩ := trodAll_cons r2
  obtain ⟨v4, vs4, d4, ds4, p4, q4, rfl, rfl, rfl, h4, r4⟩ := trodAll_cons r3
  obtain ⟨rfl, rfl, rfl⟩ := trodAll_nil r4
  obtain rfl : args = #[v0, v1, v2, v3, v4] := by cases args; simp_all
  obtain ⟨rfl, rfl⟩ := trodVars_none hV
  have k0 := h0
  have lt0 : ∀ x ∈ p0, x.block < W.heap.size := by obtain ⟨m, hm⟩ := k0; exact DataW.trod_lt m _ _ _ hm
  have k1 := h1
  have lt1 : ∀ x ∈ p1, x.block < W.heap.size := by obtain ⟨m, hm⟩ := k1; exact DataW.trod_lt m _ _ _ hm
  have k2 := h2
  have lt2 : ∀ x ∈ p2, x.block < W.heap.size := by obtain ⟨m, hm⟩ := k2; exact DataW.trod_lt m _ _ _ hm
  have k3 := h3
  have lt3 : ∀ x ∈ p3, x.block < W.heap.size := by obtain ⟨m, hm⟩ := k3; exact DataW.trod_lt m _ _ _ hm
  have k4 := h4
  have lt4 : ∀ x ∈ p4, x.block < W.heap.size := by obtain ⟨m, hm⟩ := k4; exact DataW.trod_lt m _ _ _ hm
  obtain ⟨a, rfl, rfl, rfl, w0⟩ := open_int Try.underlying2 (hval 0 2 v0 rfl rfl) h0
  obtain ⟨h, rfl, rfl, rfl, w1⟩ := open_int Try.underlying2 (hval 1 2 v1 rfl rfl) h1
  obtain ⟨a2, len2, cap2, rfl⟩ := okWide_slice Try.underlying28 (hval 2 28 v2 rfl rfl)
  obtain ⟨le2, mx2, zs, i2, w2⟩ := ints_of_trod Try.underlying28 Try.underlying2 (by kernel_rfl) h2 lt2
  obtain ⟨c3_0, c3_1, c3_2, c3_3, y3_0, y3_1, y3_2, y3_3, m3, rfl, rfl, rfl, g3_0, g3_1, g3_2, g3_3⟩ := open_agg4 Try.underlying27 (by kernel_rfl) (by kernel_rfl) (hval 3 27 v3 rfl rfl) h3
  obtain ⟨rx0, e3_0, rfl, w3_0⟩ := DataW.trod_int Try.underlying2 g3_0
  obtain rfl : c3_0 = .int .i64 rx0 := by simpa using e3_0
  obtain ⟨ry0, e3_1, rfl, w3_1⟩ := DataW.trod_int Try.underlying2 g3_1
  obtain rfl : c3_1 = .int .i64 ry0 := by simpa using e3_1
  obtain ⟨rx1, e3_2, rfl, w3_2⟩ := DataW.trod_int Try.underlying2 g3_2
  obtain rfl : c3_2 = .int .i64 rx1 := by simpa using e3_2
  obtain ⟨ry1, e3_3, rfl, w3_3⟩ := DataW.trod_int Try.underlying2 g3_3
  obtain rfl : c3_3 = .int .i64 ry1 := by simpa using e3_3
  obtain ⟨a4, len4, cap4, rfl⟩ := okWide_slice Try.underlying51 (hval 4 51 v4 rfl rfl)
  obtain ⟨le4, mx4, l, i4, l4, w4⟩ := elems_of_trod (m := 2) Bd.cells Bd.ok Try.underlying51 (by kernel_rfl) (by decide) (fun fuel cs x hx => band_of_trod Try.underlying70 (by kernel_rfl) Try.underlying2 (by kernel_rfl) rfl Try.underlying21 (by kernel_rfl) rfl hx) Bd.cells_len h4
  clear hA0 hval0
  refine (chartBack_law a h zs a2 len2 cap2 rx0 ry0 rx1 ry1 l a4 len4 cap4 W (wf_bd w0) (wf_bd w1) i2 le2 mx2 (fun z hz => wf_i64 (w2 z hz)) (wf_bd w3_0) (wf_bd w3_1) (wf_bd w3_2) (wf_bd w3_3) i4 l4 le4 mx4 w4 ).mono fun e W' ⟨he, bel⟩ => ?_
  subst he
  exact ⟨_, rfl, _, _, _, [], _, [], hW', trodAll_mk1 (shut_bool Try.underlying4 _), (trodAll_cons_mk (Below.trod laidOut (by kernel_rfl) (of_decide_eq_true (by kernel_rfl)) k0 bel lt0) (trodAll_cons_mk (Below.trod laidOut (by kernel_rfl) (of_decide_eq_true (by kernel_rfl)) k1 bel lt1) (trodAll_cons_mk (Below.trod laidOut (by kernel_rfl) (of_decide_eq_true (by kernel_rfl)) k2 bel lt2) (trodAll_cons_mk (Below.trod laidOut (by kernel_rfl) (of_decide_eq_true (by kernel_rfl)) k3 bel lt3) (trodAll_cons_mk (Below.trod laidOut (by kernel_rfl) (of_decide_eq_true (by kernel_rfl)) k4 bel lt4) trodAll_mk0))))), rfl, bel.frame _, fun h => by cases h⟩

theorem over : Rows.chartBackRow.holds Try.pinned (OpenSpec.ofChange Rows.chartBackSpec) :=
  OpenClaim.holds_of_wide 6 Try.f6 rfl rfl rfl rfl rfl rfl rfl ⟨rfl, rfl, rfl, rfl, rfl⟩ rfl rfl rfl rfl rfl (by kernel_rfl) Try.func6 (by kernel_rfl)
    (of_decide_eq_true (by kernel_rfl)) (by unfold Func.isWrapper; first | (rw [if_pos (by decide +kernel)]; kernel_rfl) | (rw [if_neg (by decide +kernel)]; exact ⟨rfl, rfl⟩))
    (fun os started H enc _ => lifted os started H enc)

theorem holds : Rows.ChartBackSaid := over
#print axioms holds
end Go.Proofs.Ytgkkbeomhkggjaa.chartBack
