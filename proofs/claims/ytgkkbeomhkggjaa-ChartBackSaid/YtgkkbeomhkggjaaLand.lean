/- Layer 9: grids and models of a law's own (Land, Made). -/
import Derived.Test.YtgkkbeomhkggjaaLaw9a
import Derived.Test.YtgkkbeomhkggjaaRef10
set_option linter.unusedVariables false
set_option linter.unusedSimpArgs false
namespace Go.Proofs.Ytgkkbeomhkggjaa
open Go Go.RowKit
theorem kfland_1 : (Try.prog.info? 53).bind (fun i => i.zero.map Value.cells) = some (List.toArray [(.int .i64 0), (.int .i64 0), (.slice none 0 0)]) := by kernel_rfl
theorem kfland_2 : szB Try.prog 53 3 = true := by kernel_rfl
theorem kfland_3 : aggB Try.prog 53 3 = true := by kernel_rfl
theorem kfland_4 : elB Try.prog 28 1 = true := by kernel_rfl
theorem kfland_5 : oneB Try.prog 2 = true := by kernel_rfl
theorem kfland_6 : callB Try.prog 43 = true := by kernel_rfl
theorem kfland_7 : callB Try.prog 45 = true := by kernel_rfl
theorem kfland_8 : (Try.prog.info? 90).bind (fun i => i.zero.map Value.cells) = some (List.toArray [(.int .i64 0), (.int .i64 0)]) := by kernel_rfl
theorem kfland_9 : callB Try.prog 46 = true := by kernel_rfl
theorem remN {i a : Nat} : (i : Int).tmod (a : Int) = ((i % a : Nat) : Int) := tmn (by omega) (Int.natCast_emod i a).symm
theorem quoN {i a : Nat} (h : i ≤ 9223372036854775807) : IntKind.i64.wrap ((i : Int).tdiv (a : Int)) = ((i / a : Nat) : Int) := tdq (by omega) (by
  rw [← Int.natCast_ediv]
  have := Nat.div_le_self i a
  generalize i / a = z at *
  exact wi (by omega))
theorem mulN {i a : Nat} (h : i * a ≤ 9223372036854775807) : IntKind.i64.wrap ((i : Int) * (a : Int)) = ((i * a : Nat) : Int) := by rw [← Int.natCast_mul]; exact wi (by omega)
theorem addN {i a : Nat} (h : i + a ≤ 9223372036854775807) : IntKind.i64.wrap ((i : Int) + (a : Int)) = ((i + a : Nat) : Int) := by rw [← Int.natCast_add]; exact wi (by omega)
/-- a grid that is set cell by cell -/
def partV (V : List Int) (i : Nat) : List Int := (List.range V.length).map fun j => if j < i then nth V j else 0
theorem partV_len {V : List Int} {i : Nat} : (partV V i).length = V.length := by simp [partV]
theorem partV_at {V : List Int} {i j : Nat} (h : j < V.length) : nth (partV V i) j = if j < i then nth V j else 0 := by simp [partV, nth, List.getD, h]
theorem partV_zero {V : List Int} {n : Nat} (h : V.length = n) : partV V 0 = List.replicate n 0 := nth_ext (by rw [partV_len, List.length_replicate, h]) fun j hj => by
  rw [partV_len] at hj
  rw [partV_at hj, nth_rep (by omega), if_neg (Nat.not_lt_zero _)]
theorem partV_all {V : List Int} : partV V V.length = V := nth_ext partV_len fun j hj => by
  rw [partV_len] at hj
  rw [partV_at hj, if_pos hj]
theorem partV_skip {V : List Int} {i : Nat} (h : nth V i = 0) : partV V i = partV V (i + 1) := nth_ext (by rw [partV_len, partV_len]) fun j hj => by
  rw [partV_len] at hj
  rw [partV_at hj, partV_at hj]
  by_cases e : j = i
  · subst e; rw [if_neg (Nat.lt_irrefl _), if_pos (Nat.lt_succ_self _), h]
  · by_cases c : j < i
    · rw [if_pos c, if_pos (by omega)]
    · rw [if_neg c, if_neg (by omega)]
theorem partV_set {V : List Int} {a h i : Nat} (s : SzG a h) (hl : V.length = a * h) (hb : AllB V) (hi : i < a * h) : fillC a h ((i % a : Nat) : Int) ((i / a : Nat) : Int) ((i % a : Nat) : Int) ((i / a : Nat) : Int) (nth V i) = 0 ∧
    fillV (partV V i) a h ((i % a : Nat) : Int) ((i / a : Nat) : Int) ((i % a : Nat) : Int) ((i / a : Nat) : Int) (nth V i) = partV V (i + 1) := by
  have ha : 0 < a := s.1
  have hx : i % a < a := Nat.mod_lt _ ha
  have hy : i / a < h := Nat.div_lt_of_lt_mul hi
  have ei := of_div (rfl : i / a = _) (rfl : i % a = _)
  have hw := within_inG (x := ((i % a : Nat) : Int)) (y := ((i / a : Nat) : Int)) s ⟨Int.natCast_nonneg _, Int.ofNat_lt.2 hx, Int.natCast_nonneg _, Int.ofNat_lt.2 hy⟩
  have hv : B32 (nth V i) := hb.at_ (by omega)
  refine ⟨fillC_ok hw hv, ?_⟩
  rw [fillV_ok hw hv]
  refine nth_ext (by unfold fillL; rw [fl_len, partV_len, partV_len]) fun j hj => ?_
  unfold fillL at hj
  rw [fl_len, partV_len] at hj
  rw [fillL_cell hx (by rw [partV_len]; exact hj), ← ei, partV_at hj, partV_at hj]
  by_cases e : j = i
  · subst e; rw [if_pos rfl, if_pos (Nat.lt_succ_self _)]
  · rw [if_neg e]
    by_cases c : j < i
    · rw [if_pos c, if_pos (by omega)]
    · rw [if_neg c, if_neg (by omega)]
/-- what Land lets by -/
def LandP (a h most : Int) (L : List Int) : Prop := 1 ≤ a ∧ 1 ≤ h ∧ a ≤ most ∧ h ≤ most ∧ a * h ≤ most ∧ (L.length : Int) = a * h ∧ AllB L
theorem LandP.nat {a h : Int} {m : Nat} {L : List Int} (p : LandP a h m L) : ∃ q r : Nat, a = q ∧ h = r ∧ 1 ≤ q ∧ q ≤ m ∧ 1 ≤ r ∧ r ≤ m ∧ q * r ≤ m ∧ L.length = q * r ∧ AllB L := by
  obtain ⟨h1, h2, h3, h4, h5, h6, h7⟩ := p
  obtain ⟨q, rfl⟩ : ∃ q : Nat, a = q := ⟨a.toNat, by omega⟩
  obtain ⟨r, rfl⟩ : ∃ r : Nat, h = r := ⟨h.toNat, by omega⟩
  rw [← Int.natCast_mul] at h5 h6
  exact ⟨q, r, rfl, rfl, by omega, by omega, by omega, by omega, by omega, by omega, h7⟩

set_option maxRecDepth 100000 in
theorem land_no (a h : Int) (m : Nat) (L : List Int) (A : Option Addr) (n cap : Nat) (w : World) (ha : I6 a) (hh : I6 h) (hm : m ≤ 1024) (hr : Rd w A (vi .i64 L)) (hl : L.length = n) (hp : ¬ LandP a h m L) :
    Ret Try.prog 22 [.int .i64 a, .int .i64 h, .slice A n cap, .int .i64 (m : Int)] w (fun z w' => z = .tuple #[.agg #[.int .i64 0, .int .i64 0, .slice none 0 0], .bool false] ∧ Below w.heap.size w w') := by
  obtain ⟨ha1, ha2⟩ := id ha
  obtain ⟨hh1, hh2⟩ := id hh
  refine ret_enter Try.func22 rfl rfl rfl ?_
  have H0 := HS.start w
  refine cw_seq ?_
  refine cw_reg ?_
  refine reg_op (op_alloc H0 rfl kfland_1) rfl rfl ?_
  rintro _ w2 ⟨b1, rfl, H3⟩
  refine ry (y_asg rfl rfl) rfl rfl ?_
  refine reg_nil ?_
  refine fn_next ?_
  refine cw_seq ?_
  refine cw_seq ?_
  refine cw_reg ?_
  refine ry (y_mov rfl rfl) rfl rfl ?_
  refine ry (y_lss rfl rfl rfl) rfl rfl ?_
  refine ry (y_mov rfl rfl) rfl rfl ?_
  refine rg_splitd (d := 13) rfl (fun h4 => ?_) (fun h4 => ?_)
  · skip
    refine rg_off rfl rfl rfl rfl rfl ?_
    refine rg_off rfl rfl rfl rfl rfl ?_
    refine ry (y_pick rfl rfl rfl) rfl rfl ?_
    refine ry (y_mov rfl rfl) rfl rfl ?_
    refine rg_off rfl rfl rfl rfl rfl ?_
    refine rg_off rfl rfl rfl rfl rfl ?_
    refine rg_off rfl rfl rfl rfl rfl ?_
    refine ry (y_pick rfl rfl rfl) rfl rfl ?_
    refine ry (y_mov rfl rfl) rfl rfl ?_
    refine rg_off rfl rfl rfl rfl rfl ?_
    refine rg_off rfl rfl rfl rfl rfl ?_
    refine rg_off rfl rfl rfl rfl rfl ?_
    refine ry (y_pick rfl rfl rfl) rfl rfl ?_
    refine ry (y_mov rfl rfl) rfl rfl ?_
    refine rg_off rfl rfl rfl rfl rfl ?_
    refine rg_off rfl rfl rfl rfl rfl ?_
    refine rg_off rfl rfl rfl rfl rfl ?_
    refine rg_off rfl rfl rfl rfl rfl ?_
    refine rg_off rfl rfl rfl rfl rfl ?_
    refine ry (y_pick rfl rfl rfl) rfl rfl ?_
    refine ry (y_mov rfl rfl) rfl rfl ?_
    refine rg_off rfl rfl rfl rfl rfl ?_
    refine rg_off rfl rfl rfl rfl rfl ?_
    refine rg_off rfl rfl rfl rfl rfl ?_
    refine rg_off rfl rfl rfl rfl rfl ?_
    refine rg_off rfl rfl rfl rfl rfl ?_
    refine rg_off rfl rfl rfl rfl rfl ?_
    refine ry (y_pick rfl rfl rfl) rfl rfl ?_
    refine reg_nil ?_
    refine fn_next ?_
    refine cw_condt rfl ?_
    refine cw_seq ?_
    refine cw_reg ?_
    refine ry (y_build (places := [(0, 1), (1, 1), (2, 1)]) (parts := []) (vs := []) (cs := [.int _ _, .int _ _, .slice _ _ _]) rfl Try.underlying53 (by kernel_rfl) kfland_1 rfl trivial rfl) rfl rfl ?_
    refine reg_op (op_st (i := 0) (vs := [.int _ _, .int _ _, .slice _ _ _]) H3 rfl rfl rfl rfl rfl kfland_2 rfl rfl rfl) rfl rfl ?_
    rintro _ w5 H6
    refine ry (y_asg rfl rfl) rfl rfl ?_
    refine reg_nil ?_
    refine fn_next ?_
    refine cw_ret ?_
    refine fn_then_ret ?_
    refine fn_retn (vs := [_, _]) rfl ⟨⟨_, rfl, load_agg (cs := [_, _, _]) kfland_3 rfl fun j v hv => by rw [Nat.zero_add]; exact H6.cell (i := 0) rfl hv⟩, rfl, trivial⟩ rfl ?_
    exact ⟨rfl, H6.base⟩
  · skip
    refine rgy (y_mov rfl rfl) rfl rfl rfl rfl ?_
    refine rgy (y_lss rfl rfl rfl) rfl rfl rfl rfl ?_
    refine ry (y_pick rfl rfl rfl) rfl rfl ?_
    refine ry (y_mov rfl rfl) rfl rfl ?_
    refine rg_splitd (d := 17) rfl (fun h7 => ?_) (fun h7 => ?_)
    · skip
      refine rg_off rfl rfl rfl rfl rfl ?_
      refine rg_off rfl rfl rfl rfl rfl ?_
      refine rg_off rfl rfl rfl rfl rfl ?_
      refine ry (y_pick rfl rfl rfl) rfl rfl ?_
      refine ry (y_mov rfl rfl) rfl rfl ?_
      refine rg_off rfl rfl rfl rfl rfl ?_
      refine rg_off rfl rfl rfl rfl rfl ?_
      refine rg_off rfl rfl rfl rfl rfl ?_
      refine ry (y_pick rfl rfl rfl) rfl rfl ?_
      refine ry (y_mov rfl rfl) rfl rfl ?_
      refine rg_off rfl rfl rfl rfl rfl ?_
      refine rg_off rfl rfl rfl rfl rfl ?_
      refine rg_off rfl rfl rfl rfl rfl ?_
      refine rg_off rfl rfl rfl rfl rfl ?_
      refine rg_off rfl rfl rfl rfl rfl ?_
      refine ry (y_pick rfl rfl rfl) rfl rfl ?_
      refine ry (y_mov rfl rfl) rfl rfl ?_
      refine rg_off rfl rfl rfl rfl rfl ?_
      refine rg_off rfl rfl rfl rfl rfl ?_
      refine rg_off rfl rfl rfl rfl rfl ?_
      refine rg_off rfl rfl rfl rfl rfl ?_
      refine rg_off rfl rfl rfl rfl rfl ?_
      refine rg_off rfl rfl rfl rfl rfl ?_
      refine ry (y_pick rfl rfl rfl) rfl rfl ?_
      refine reg_nil ?_
      refine fn_next ?_
      refine cw_condt rfl ?_
      refine cw_seq ?_
      refine cw_reg ?_
      refine ry (y_build (places := [(0, 1), (1, 1), (2, 1)]) (parts := []) (vs := []) (cs := [.int _ _, .int _ _, .slice _ _ _]) rfl Try.underlying53 (by kernel_rfl) kfland_1 rfl trivial rfl) rfl rfl ?_
      refine reg_op (op_st (i := 0) (vs := [.int _ _, .int _ _, .slice _ _ _]) H3 rfl rfl rfl rfl rfl kfland_2 rfl rfl rfl) rfl rfl ?_
      rintro _ w8 H9
      refine ry (y_asg rfl rfl) rfl rfl ?_
      refine reg_nil ?_
      refine fn_next ?_
      refine cw_ret ?_
      refine fn_then_ret ?_
      refine fn_retn (vs := [_, _]) rfl ⟨⟨_, rfl, load_agg (cs := [_, _, _]) kfland_3 rfl fun j v hv => by rw [Nat.zero_add]; exact H9.cell (i := 0) rfl hv⟩, rfl, trivial⟩ rfl ?_
      exact ⟨rfl, H9.base⟩
    · skip
      refine rgy (y_mov rfl rfl) rfl rfl rfl rfl ?_
      refine rgy (y_mov rfl rfl) rfl rfl rfl rfl ?_
      refine rgy (y_gtr rfl rfl rfl) rfl rfl rfl rfl ?_
      refine ry (y_pick rfl rfl rfl) rfl rfl ?_
      refine ry (y_mov rfl rfl) rfl rfl ?_
      refine rg_splitd (d := 22) rfl (fun h10 => ?_) (fun h10 => ?_)
      · skip
        refine rg_off rfl rfl rfl rfl rfl ?_
        refine rg_off rfl rfl rfl rfl rfl ?_
        refine rg_off rfl rfl rfl rfl rfl ?_
        refine ry (y_pick rfl rfl rfl) rfl rfl ?_
        refine ry (y_mov rfl rfl) rfl rfl ?_
        refine rg_off rfl rfl rfl rfl rfl ?_
        refine rg_off rfl rfl rfl rfl rfl ?_
        refine rg_off rfl rfl rfl rfl rfl ?_
        refine rg_off rfl rfl rfl rfl rfl ?_
        refine rg_off rfl rfl rfl rfl rfl ?_
        refine ry (y_pick rfl rfl rfl) rfl rfl ?_
        refine ry (y_mov rfl rfl) rfl rfl ?_
        refine rg_off rfl rfl rfl rfl rfl ?_
        refine rg_off rfl rfl rfl rfl rfl ?_
        refine rg_off rfl rfl rfl rfl rfl ?_
        refine rg_off rfl rfl rfl rfl rfl ?_
        refine rg_off rfl rfl rfl rfl rfl ?_
        refine rg_off rfl rfl rfl rfl rfl ?_
        refine ry (y_pick rfl rfl rfl) rfl rfl ?_
        refine reg_nil ?_
        refine fn_next ?_
        refine cw_condt rfl ?_
        refine cw_seq ?_
        refine cw_reg ?_
        refine ry (y_build (places := [(0, 1), (1, 1), (2, 1)]) (parts := []) (vs := []) (cs := [.int _ _, .int _ _, .slice _ _ _]) rfl Try.underlying53 (by kernel_rfl) kfland_1 rfl trivial rfl) rfl rfl ?_
        refine reg_op (op_st (i := 0) (vs := [.int _ _, .int _ _, .slice _ _ _]) H3 rfl rfl rfl rfl rfl kfland_2 rfl rfl rfl) rfl rfl ?_
        rintro _ w11 H12
        refine ry (y_asg rfl rfl) rfl rfl ?_
        refine reg_nil ?_
        refine fn_next ?_
        refine cw_ret ?_
        refine fn_then_ret ?_
        refine fn_retn (vs := [_, _]) rfl ⟨⟨_, rfl, load_agg (cs := [_, _, _]) kfland_3 rfl fun j v hv => by rw [Nat.zero_add]; exact H12.cell (i := 0) rfl hv⟩, rfl, trivial⟩ rfl ?_
        exact ⟨rfl, H12.base⟩
      · skip
        refine rgy (y_mov rfl rfl) rfl rfl rfl rfl ?_
        refine rgy (y_mov rfl rfl) rfl rfl rfl rfl ?_
        refine rgy (y_gtr rfl rfl rfl) rfl rfl rfl rfl ?_
        refine ry (y_pick rfl rfl rfl) rfl rfl ?_
        refine ry (y_mov rfl rfl) rfl rfl ?_
        refine rg_splitd (d := 27) rfl (fun h13 => ?_) (fun h13 => ?_)
        · skip
          refine rg_off rfl rfl rfl rfl rfl ?_
          refine rg_off rfl rfl rfl rfl rfl ?_
          refine rg_off rfl rfl rfl rfl rfl ?_
          refine rg_off rfl rfl rfl rfl rfl ?_
          refine rg_off rfl rfl rfl rfl rfl ?_
          refine ry (y_pick rfl rfl rfl) rfl rfl ?_
          refine ry (y_mov rfl rfl) rfl rfl ?_
          refine rg_off rfl rfl rfl rfl rfl ?_
          refine rg_off rfl rfl rfl rfl rfl ?_
          refine rg_off rfl rfl rfl rfl rfl ?_
          refine rg_off rfl rfl rfl rfl rfl ?_
          refine rg_off rfl rfl rfl rfl rfl ?_
          refine rg_off rfl rfl rfl rfl rfl ?_
          refine ry (y_pick rfl rfl rfl) rfl rfl ?_
          refine reg_nil ?_
          refine fn_next ?_
          refine cw_condt rfl ?_
          refine cw_seq ?_
          refine cw_reg ?_
          refine ry (y_build (places := [(0, 1), (1, 1), (2, 1)]) (parts := []) (vs := []) (cs := [.int _ _, .int _ _, .slice _ _ _]) rfl Try.underlying53 (by kernel_rfl) kfland_1 rfl trivial rfl) rfl rfl ?_
          refine reg_op (op_st (i := 0) (vs := [.int _ _, .int _ _, .slice _ _ _]) H3 rfl rfl rfl rfl rfl kfland_2 rfl rfl rfl) rfl rfl ?_
          rintro _ w14 H15
          refine ry (y_asg rfl rfl) rfl rfl ?_
          refine reg_nil ?_
          refine fn_next ?_
          refine cw_ret ?_
          refine fn_then_ret ?_
          refine fn_retn (vs := [_, _]) rfl ⟨⟨_, rfl, load_agg (cs := [_, _, _]) kfland_3 rfl fun j v hv => by rw [Nat.zero_add]; exact H15.cell (i := 0) rfl hv⟩, rfl, trivial⟩ rfl ?_
          exact ⟨rfl, H15.base⟩
        · skip
          refine rgy (y_mov rfl rfl) rfl rfl rfl rfl ?_
          refine rgy (y_mov rfl rfl) rfl rfl rfl rfl ?_
          have hmb := area_bd (a := a) (b := h) (by omega) (by omega) (by omega) (by omega)
          refine rgy (y_mul rfl rfl rfl (wi (by omega))) rfl rfl rfl rfl ?_
          refine rgy (y_mov rfl rfl) rfl rfl rfl rfl ?_
          refine rgy (y_gtr rfl rfl rfl) rfl rfl rfl rfl ?_
          refine ry (y_pick rfl rfl rfl) rfl rfl ?_
          refine ry (y_mov rfl rfl) rfl rfl ?_
          refine rg_splitd (d := 34) rfl (fun h16 => ?_) (fun h16 => ?_)
          · skip
            refine rg_off rfl rfl rfl rfl rfl ?_
            refine rg_off rfl rfl rfl rfl rfl ?_
            refine rg_off rfl rfl rfl rfl rfl ?_
            refine rg_off rfl rfl rfl rfl rfl ?_
            refine rg_off rfl rfl rfl rfl rfl ?_
            refine rg_off rfl rfl rfl rfl rfl ?_
            refine ry (y_pick rfl rfl rfl) rfl rfl ?_
            refine reg_nil ?_
            refine fn_next ?_
            refine cw_condt rfl ?_
            refine cw_seq ?_
            refine cw_reg ?_
            refine ry (y_build (places := [(0, 1), (1, 1), (2, 1)]) (parts := []) (vs := []) (cs := [.int _ _, .int _ _, .slice _ _ _]) rfl Try.underlying53 (by kernel_rfl) kfland_1 rfl trivial rfl) rfl rfl ?_
            refine reg_op (op_st (i := 0) (vs := [.int _ _, .int _ _, .slice _ _ _]) H3 rfl rfl rfl rfl rfl kfland_2 rfl rfl rfl) rfl rfl ?_
            rintro _ w17 H18
            refine ry (y_asg rfl rfl) rfl rfl ?_
            refine reg_nil ?_
            refine fn_next ?_
            refine cw_ret ?_
            refine fn_then_ret ?_
            refine fn_retn (vs := [_, _]) rfl ⟨⟨_, rfl, load_agg (cs := [_, _, _]) kfland_3 rfl fun j v hv => by rw [Nat.zero_add]; exact H18.cell (i := 0) rfl hv⟩, rfl, trivial⟩ rfl ?_
            exact ⟨rfl, H18.base⟩
          · skip
            refine rgy (y_mov rfl rfl) rfl rfl rfl rfl ?_
            refine rgy (y_len rfl Try.underlying28 rfl) rfl rfl rfl rfl ?_
            refine rgy (y_mov rfl rfl) rfl rfl rfl rfl ?_
            refine rgy (y_mov rfl rfl) rfl rfl rfl rfl ?_
            have hmb := area_bd (a := a) (b := h) (by omega) (by omega) (by omega) (by omega)
            refine rgy (y_mul rfl rfl rfl (wi (by omega))) rfl rfl rfl rfl ?_
            refine rgy (y_neq rfl rfl rfl) rfl rfl rfl rfl ?_
            refine ry (y_pick rfl rfl rfl) rfl rfl ?_
            refine reg_nil ?_
            refine fn_next ?_
            refine cw_condd rfl (fun h19 => ?_) (fun h19 => ?_)
            · skip
              refine cw_seq ?_
              refine cw_reg ?_
              refine ry (y_build (places := [(0, 1), (1, 1), (2, 1)]) (parts := []) (vs := []) (cs := [.int _ _, .int _ _, .slice _ _ _]) rfl Try.underlying53 (by kernel_rfl) kfland_1 rfl trivial rfl) rfl rfl ?_
              refine reg_op (op_st (i := 0) (vs := [.int _ _, .int _ _, .slice _ _ _]) H3 rfl rfl rfl rfl rfl kfland_2 rfl rfl rfl) rfl rfl ?_
              rintro _ w20 H21
              refine ry (y_asg rfl rfl) rfl rfl ?_
              refine reg_nil ?_
              refine fn_next ?_
              refine cw_ret ?_
              refine fn_then_ret ?_
              refine fn_retn (vs := [_, _]) rfl ⟨⟨_, rfl, load_agg (cs := [_, _, _]) kfland_3 rfl fun j v hv => by rw [Nat.zero_add]; exact H21.cell (i := 0) rfl hv⟩, rfl, trivial⟩ rfl ?_
              exact ⟨rfl, H21.base⟩
            · skip
              refine cw_skip ?_
              refine fn_next ?_
              refine cw_seq ?_
              refine cw_seq ?_
              refine cw_reg ?_
              refine ry (y_asg rfl rfl) rfl rfl ?_
              refine reg_nil ?_
              refine fn_next ?_
              refine cw_block ?_
              refine cw_loopJ [9, 10, 43, 44, 45, 46, 47, 48, 49, 50, 51, 52, 53, 54, 55] (fun M wl ml => ∃ (i : Nat), M = [(10, .int .i64 (i : Int))] ∧ HS w wl [Ob.blk b1 [.int .i64 0, .int .i64 0, .slice none 0 0] 53] ∧ (i ≤ n) ∧ (Hid (∀ j, j < i → B32 (nth L j))) ∧ ml = n - i) ⟨0, rfl, H3, Nat.zero_le _, Lib.hid (fun j hj => absurd hj (Nat.not_lt_zero _)), rfl⟩ ⟨rfl, trivial⟩ ?_
              rintro M w22 m24 ⟨i, rfl, H23, hp0, hp1, rfl⟩
              refine cw_seq ?_
              refine cw_seq ?_
              refine cw_reg ?_
              refine ry (y_mov rfl rfl) rfl rfl ?_
              refine ry (y_mov rfl rfl) rfl rfl ?_
              refine ry (y_len rfl Try.underlying28 rfl) rfl rfl ?_
              refine ry (y_lss rfl rfl rfl) rfl rfl ?_
              refine reg_nil ?_
              refine fn_next ?_
              refine cw_condd rfl (fun h25 => ?_) (fun h25 => ?_)
              · skip
                have hgi := vi_get (k := .i64) (zs := L) (i := i) (by omega)
                refine cw_skip ?_
                refine fn_next ?_
                refine cw_seq ?_
                refine cw_block ?_
                refine cw_seq ?_
                refine cw_reg ?_
                refine ry (y_mov rfl rfl) rfl rfl ?_
                refine ry (y_mov rfl rfl) rfl rfl ?_
                refine ry (y_iar (hr.below H23.base) rfl rfl rfl kfland_4 (rfl) (by omega) (Nat.mul_one _) (hgi)) rfl rfl ?_
                refine ry (y_ldr (hr.below H23.base) rfl rfl kfland_5 (hgi)) rfl rfl ?_
                refine reg_op (op_call (refMay_any (nth L i) _) rfl kfland_6 ⟨rfl, trivial⟩) rfl rfl ?_
                rintro _ w27 ⟨rfl, e26⟩
                have H28 := H23.ext e26
                refine ry (y_notd rfl rfl) rfl rfl ?_
                refine reg_nil ?_
                refine fn_next ?_
                refine cw_condd rfl (fun hne => ?_) (fun hne => ?_)
                · skip
                  refine cw_seq ?_
                  refine cw_reg ?_
                  refine ry (y_build (places := [(0, 1), (1, 1), (2, 1)]) (parts := []) (vs := []) (cs := [.int _ _, .int _ _, .slice _ _ _]) rfl Try.underlying53 (by kernel_rfl) kfland_1 rfl trivial rfl) rfl rfl ?_
                  refine reg_op (op_st (i := 0) (vs := [.int _ _, .int _ _, .slice _ _ _]) H28 rfl rfl rfl rfl rfl kfland_2 rfl rfl rfl) rfl rfl ?_
                  rintro _ w30 H31
                  refine ry (y_asg rfl rfl) rfl rfl ?_
                  refine reg_nil ?_
                  refine fn_next ?_
                  refine cw_ret ?_
                  refine fn_block_ret (fn_then_ret (fn_then_ret (fn_block_ret (fn_then_ret ?_))))
                  refine fn_retn (vs := [_, _]) rfl ⟨⟨_, rfl, load_agg (cs := [_, _, _]) kfland_3 rfl fun j v hv => by rw [Nat.zero_add]; exact H31.cell (i := 0) rfl hv⟩, rfl, trivial⟩ rfl ?_
                  exact ⟨rfl, H31.base⟩
                · skip
                  refine cw_skip ?_
                  refine fn_block ?_
                  refine fn_next ?_
                  refine cw_reg ?_
                  refine ry (y_mov rfl rfl) rfl rfl ?_
                  refine ry (y_add rfl rfl rfl (wi (by omega))) rfl rfl ?_
                  refine ry (y_asg rfl rfl) rfl rfl ?_
                  refine reg_nil ?_
                  refine fn_roundJ ⟨i + 1, rfl, H28, by omega, Lib.hid (fun j hj => (Nat.lt_or_eq_of_le (Nat.le_of_lt_succ hj)).elim (hp1.out j) (fun e => e ▸ Classical.not_not.1 hne)), rfl⟩ ⟨rfl, trivial⟩ (by omega) (by repeat (first | exact kp_refl | refine kp_app rfl rfl ?_ | refine kp_cons rfl ?_)) rfl
              · skip
                obtain rfl : i = n := by omega
                refine cw_exit ?_
                refine fn_then_exit (fn_then_exit (fn_block_exit ?_))
                refine fn_next ?_
                refine cw_seq ?_
                refine cw_reg ?_
                refine ry (y_mov rfl rfl) rfl rfl ?_
                refine ry (y_mov rfl rfl) rfl rfl ?_
                refine ry (y_mov rfl rfl) rfl rfl ?_
                refine ry (y_build (places := [(0, 1), (1, 1), (2, 1)]) (parts := [(0, _), (1, _), (2, _)]) (vs := [(0, _), (1, _), (2, _)]) (cs := [.int _ _, .int _ _, .slice _ _ _]) rfl Try.underlying53 (by kernel_rfl) kfland_1 rfl ⟨rfl, rfl, rfl, trivial⟩ rfl) rfl rfl ?_
                refine reg_op (op_st (i := 0) (vs := [.int _ _, .int _ _, .slice _ _ _]) H23 rfl rfl rfl rfl rfl kfland_2 rfl rfl rfl) rfl rfl ?_
                rintro _ w32 H33
                refine ry (y_asg rfl rfl) rfl rfl ?_
                refine reg_nil ?_
                refine fn_next ?_
                refine cw_ret ?_
                refine fn_retn (vs := [_, _]) rfl ⟨⟨_, rfl, load_agg (cs := [_, _, _]) kfland_3 rfl fun j v hv => by rw [Nat.zero_add]; exact H33.cell (i := 0) rfl hv⟩, rfl, trivial⟩ rfl ?_
                exfalso
                exact hp ⟨by omega, by omega, by omega, by omega, by omega, by omega, allB_nth (fun j hj => hp1.out j (by omega))⟩

set_option maxRecDepth 100000 in
theorem land_ok (a h m : Nat) (L : List Int) (A : Option Addr) (n cap : Nat) (w : World) (h1 : 1 ≤ a) (h2 : a ≤ m) (h3 : 1 ≤ h) (h4 : h ≤ m) (h5 : a * h ≤ m) (hl : n = a * h) (hl' : L.length = n) (hb : AllB L) (hm : m ≤ 1024) (hr : Rd w A (vi .i64 L)) :
    Ret Try.prog 22 [.int .i64 (a : Int), .int .i64 (h : Int), .slice A n cap, .int .i64 (m : Int)] w (fun z w' => z = .tuple #[.agg #[.int .i64 (a : Int), .int .i64 (h : Int), .slice A n cap], .bool true] ∧ Below w.heap.size w w') := by
  refine ret_enter Try.func22 rfl rfl rfl ?_
  have H0 := HS.start w
  refine cw_seq ?_
  refine cw_reg ?_
  refine reg_op (op_alloc H0 rfl kfland_1) rfl rfl ?_
  rintro _ w2 ⟨b1, rfl, H3⟩
  refine ry (y_asg rfl rfl) rfl rfl ?_
  refine reg_nil ?_
  refine fn_next ?_
  refine cw_seq ?_
  refine cw_seq ?_
  refine cw_reg ?_
  refine ry (y_mov rfl rfl) rfl rfl ?_
  refine ry (y_lss rfl rfl rfl) rfl rfl ?_
  refine ry (y_mov rfl rfl) rfl rfl ?_
  refine rg_splitd (d := 13) rfl (fun h4 => ?_) (fun h4 => ?_)
  · exfalso; omega
  · skip
    refine rgy (y_mov rfl rfl) rfl rfl rfl rfl ?_
    refine rgy (y_lss rfl rfl rfl) rfl rfl rfl rfl ?_
    refine ry (y_pick rfl rfl rfl) rfl rfl ?_
    refine ry (y_mov rfl rfl) rfl rfl ?_
    refine rg_splitd (d := 17) rfl (fun h5 => ?_) (fun h5 => ?_)
    · exfalso; omega
    · skip
      refine rgy (y_mov rfl rfl) rfl rfl rfl rfl ?_
      refine rgy (y_mov rfl rfl) rfl rfl rfl rfl ?_
      refine rgy (y_gtr rfl rfl rfl) rfl rfl rfl rfl ?_
      refine ry (y_pick rfl rfl rfl) rfl rfl ?_
      refine ry (y_mov rfl rfl) rfl rfl ?_
      refine rg_splitd (d := 22) rfl (fun h6 => ?_) (fun h6 => ?_)
      · exfalso; omega
      · skip
        refine rgy (y_mov rfl rfl) rfl rfl rfl rfl ?_
        refine rgy (y_mov rfl rfl) rfl rfl rfl rfl ?_
        refine rgy (y_gtr rfl rfl rfl) rfl rfl rfl rfl ?_
        refine ry (y_pick rfl rfl rfl) rfl rfl ?_
        refine ry (y_mov rfl rfl) rfl rfl ?_
        refine rg_splitd (d := 27) rfl (fun h7 => ?_) (fun h7 => ?_)
        · exfalso; omega
        · skip
          refine rgy (y_mov rfl rfl) rfl rfl rfl rfl ?_
          refine rgy (y_mov rfl rfl) rfl rfl rfl rfl ?_
          refine rgy (y_mul rfl rfl rfl (mulN (by omega))) rfl rfl rfl rfl ?_
          refine rgy (y_mov rfl rfl) rfl rfl rfl rfl ?_
          refine rgy (y_gtr rfl rfl rfl) rfl rfl rfl rfl ?_
          refine ry (y_pick rfl rfl rfl) rfl rfl ?_
          refine ry (y_mov rfl rfl) rfl rfl ?_
          refine rg_splitd (d := 34) rfl (fun h8 => ?_) (fun h8 => ?_)
          · exfalso; omega
          · skip
            refine rgy (y_mov rfl rfl) rfl rfl rfl rfl ?_
            refine rgy (y_len rfl Try.underlying28 rfl) rfl rfl rfl rfl ?_
            refine rgy (y_mov rfl rfl) rfl rfl rfl rfl ?_
            refine rgy (y_mov rfl rfl) rfl rfl rfl rfl ?_
            refine rgy (y_mul rfl rfl rfl (mulN (by omega))) rfl rfl rfl rfl ?_
            refine rgy (y_neq rfl rfl rfl) rfl rfl rfl rfl ?_
            refine ry (y_pick rfl rfl rfl) rfl rfl ?_
            refine reg_nil ?_
            refine fn_next ?_
            refine cw_condd rfl (fun h9 => ?_) (fun h9 => ?_)
            · exfalso; omega
            · skip
              refine cw_skip ?_
              refine fn_next ?_
              refine cw_seq ?_
              refine cw_seq ?_
              refine cw_reg ?_
              refine ry (y_asg rfl rfl) rfl rfl ?_
              refine reg_nil ?_
              refine fn_next ?_
              refine cw_block ?_
              refine cw_loopJ [9, 10, 43, 44, 45, 46, 47, 48, 49, 50, 51, 52, 53, 54, 55] (fun M wl ml => ∃ (i : Nat), M = [(10, .int .i64 (i : Int))] ∧ HS w wl [Ob.blk b1 [.int .i64 0, .int .i64 0, .slice none 0 0] 53] ∧ (i ≤ n) ∧ (Hid (∀ j, j < i → B32 (nth L j))) ∧ ml = n - i) ⟨0, rfl, H3, Nat.zero_le _, Lib.hid (fun j hj => absurd hj (Nat.not_lt_zero _)), rfl⟩ ⟨rfl, trivial⟩ ?_
              rintro M w10 m12 ⟨i, rfl, H11, hp0, hp1, rfl⟩
              refine cw_seq ?_
              refine cw_seq ?_
              refine cw_reg ?_
              refine ry (y_mov rfl rfl) rfl rfl ?_
              refine ry (y_mov rfl rfl) rfl rfl ?_
              refine ry (y_len rfl Try.underlying28 rfl) rfl rfl ?_
              refine ry (y_lss rfl rfl rfl) rfl rfl ?_
              refine reg_nil ?_
              refine fn_next ?_
              refine cw_condd rfl (fun h13 => ?_) (fun h13 => ?_)
              · skip
                have hgi := vi_get (k := .i64) (zs := L) (i := i) (by omega)
                refine cw_skip ?_
                refine fn_next ?_
                refine cw_seq ?_
                refine cw_block ?_
                refine cw_seq ?_
                refine cw_reg ?_
                refine ry (y_mov rfl rfl) rfl rfl ?_
                refine ry (y_mov rfl rfl) rfl rfl ?_
                refine ry (y_iar (hr.below H11.base) rfl rfl rfl kfland_4 (rfl) (by omega) (Nat.mul_one _) (hgi)) rfl rfl ?_
                refine ry (y_ldr (hr.below H11.base) rfl rfl kfland_5 (hgi)) rfl rfl ?_
                refine reg_op (op_call (refMay_any (nth L i) _) rfl kfland_6 ⟨rfl, trivial⟩) rfl rfl ?_
                rintro _ w15 ⟨rfl, e14⟩
                have H16 := H11.ext e14
                refine ry (y_notd rfl rfl) rfl rfl ?_
                refine reg_nil ?_
                refine fn_next ?_
                refine cw_condd rfl (fun hne => ?_) (fun hne => ?_)
                · exact absurd (hb.at_ (by omega)) hne
                · skip
                  refine cw_skip ?_
                  refine fn_block ?_
                  refine fn_next ?_
                  refine cw_reg ?_
                  refine ry (y_mov rfl rfl) rfl rfl ?_
                  refine ry (y_add rfl rfl rfl (wi (by omega))) rfl rfl ?_
                  refine ry (y_asg rfl rfl) rfl rfl ?_
                  refine reg_nil ?_
                  refine fn_roundJ ⟨i + 1, rfl, H16, by omega, Lib.hid (fun j hj => (Nat.lt_or_eq_of_le (Nat.le_of_lt_succ hj)).elim (hp1.out j) (fun e => e ▸ Classical.not_not.1 hne)), rfl⟩ ⟨rfl, trivial⟩ (by omega) (by repeat (first | exact kp_refl | refine kp_app rfl rfl ?_ | refine kp_cons rfl ?_)) rfl
              · skip
                obtain rfl : i = n := by omega
                refine cw_exit ?_
                refine fn_then_exit (fn_then_exit (fn_block_exit ?_))
                refine fn_next ?_
                refine cw_seq ?_
                refine cw_reg ?_
                refine ry (y_mov rfl rfl) rfl rfl ?_
                refine ry (y_mov rfl rfl) rfl rfl ?_
                refine ry (y_mov rfl rfl) rfl rfl ?_
                refine ry (y_build (places := [(0, 1), (1, 1), (2, 1)]) (parts := [(0, _), (1, _), (2, _)]) (vs := [(0, _), (1, _), (2, _)]) (cs := [.int _ _, .int _ _, .slice _ _ _]) rfl Try.underlying53 (by kernel_rfl) kfland_1 rfl ⟨rfl, rfl, rfl, trivial⟩ rfl) rfl rfl ?_
                refine reg_op (op_st (i := 0) (vs := [.int _ _, .int _ _, .slice _ _ _]) H11 rfl rfl rfl rfl rfl kfland_2 rfl rfl rfl) rfl rfl ?_
                rintro _ w18 H19
                refine ry (y_asg rfl rfl) rfl rfl ?_
                refine reg_nil ?_
                refine fn_next ?_
                refine cw_ret ?_
                refine fn_retn (vs := [_, _]) rfl ⟨⟨_, rfl, load_agg (cs := [_, _, _]) kfland_3 rfl fun j v hv => by rw [Nat.zero_add]; exact H19.cell (i := 0) rfl hv⟩, rfl, trivial⟩ rfl ?_
                exact ⟨rfl, H19.base⟩

set_option maxRecDepth 100000 in
theorem made_ok (a h : Nat) (L : List Int) (A : Option Addr) (n cap : Nat) (w : World) (s : SzG a h) (hl : L.length = a * h) (hn : n = a * h) (hb : AllB L) (hr : Rd w A (vi .i64 L)) :
    Ret Try.prog 24 [.int .i64 (a : Int), .int .i64 (h : Int), .slice A n cap] w (fun z w' => ∃ g bl, z = .tuple #[.pointer (some ⟨g, 0, none⟩), .bool true] ∧ HS w w' [gOb g a h L bl]) := by
  have hm' := s.mul
  obtain ⟨s1, s2, s3, s4⟩ := id s
  refine ret_enter Try.func24 rfl rfl rfl ?_
  have H0 := HS.start w
  refine cw_seq ?_
  refine cw_reg ?_
  refine ry (y_asg rfl rfl) rfl rfl ?_
  refine ry (y_asg rfl rfl) rfl rfl ?_
  refine reg_nil ?_
  refine fn_next ?_
  refine cw_seq ?_
  refine cw_reg ?_
  refine ry (y_mov rfl rfl) rfl rfl ?_
  refine ry (y_mov rfl rfl) rfl rfl ?_
  refine reg_op (op_call (gNew_ok a h 0 _ (s) (by decide)) rfl kfland_7 ⟨rfl, rfl, rfl, trivial⟩) rfl rfl ?_
  rintro _ w2 ⟨g4, bl5, rfl, k1⟩
  have H3 := H0.call k1
  refine ry (y_mov rfl rfl) rfl rfl ?_
  refine ry (y_ext rfl rfl rfl) rfl rfl ?_
  refine ry (y_ext rfl rfl rfl) rfl rfl ?_
  refine ry (y_asg rfl rfl) rfl rfl ?_
  refine ry (y_asg rfl rfl) rfl rfl ?_
  refine reg_nil ?_
  refine fn_next ?_
  refine cw_seq ?_
  refine cw_seq ?_
  refine cw_reg ?_
  refine ry (y_mov rfl rfl) rfl rfl ?_
  refine ry (y_neq rfl rfl rfl) rfl rfl ?_
  refine ry (y_mov rfl rfl) rfl rfl ?_
  refine rg_splitd (d := 19) rfl (fun h6 => ?_) (fun h6 => ?_)
  · exact absurd rfl h6
  · skip
    refine rgy (y_mov rfl rfl) rfl rfl rfl rfl ?_
    refine rgy (y_len rfl Try.underlying28 rfl) rfl rfl rfl rfl ?_
    refine rgy (y_mov rfl rfl) rfl rfl rfl rfl ?_
    refine rgy (y_mov rfl rfl) rfl rfl rfl rfl ?_
    refine rgy (y_mul rfl rfl rfl (mulN (by omega))) rfl rfl rfl rfl ?_
    refine rgy (y_neq rfl rfl rfl) rfl rfl rfl rfl ?_
    refine ry (y_pick rfl rfl rfl) rfl rfl ?_
    refine reg_nil ?_
    refine fn_next ?_
    refine cw_condd rfl (fun h7 => ?_) (fun h7 => ?_)
    · exfalso; omega
    · skip
      refine cw_skip ?_
      refine fn_next ?_
      refine cw_seq ?_
      refine cw_seq ?_
      refine cw_reg ?_
      refine ry (y_asg rfl rfl) rfl rfl ?_
      refine reg_nil ?_
      refine fn_next ?_
      refine cw_block ?_
      rw [← partV_zero hl] at H3
      refine cw_loopJ [6, 7, 10, 27, 28, 29, 30, 31, 32, 33, 34, 35, 36, 37, 38, 39, 40, 41, 42, 43, 44, 45, 46, 47, 48, 49, 50, 51, 52, 53, 54] (fun M wl ml => ∃ (i : Nat) (bl' : Nat → Prop), M = [(10, .int .i64 (i : Int))] ∧ HS w wl [gOb g4 a h (partV L i) bl'] ∧ (i ≤ a * h) ∧ ml = a * h - i) ⟨0, _, rfl, H3, Nat.zero_le _, rfl⟩ ⟨rfl, trivial⟩ ?_
      rintro M w8 m10 ⟨i, bl', rfl, H9, hp0, rfl⟩
      refine cw_seq ?_
      refine cw_seq ?_
      refine cw_reg ?_
      refine ry (y_mov rfl rfl) rfl rfl ?_
      refine ry (y_mov rfl rfl) rfl rfl ?_
      refine ry (y_mov rfl rfl) rfl rfl ?_
      refine ry (y_mul rfl rfl rfl (mulN (by omega))) rfl rfl ?_
      refine ry (y_lss rfl rfl rfl) rfl rfl ?_
      refine reg_nil ?_
      refine fn_next ?_
      refine cw_condd rfl (fun h11 => ?_) (fun h11 => ?_)
      · skip
        have hgi := vi_get (k := .i64) (zs := L) (i := i) (by omega)
        have hst := partV_set s hl hb (i := i) (by omega)
        refine cw_skip ?_
        refine fn_next ?_
        refine cw_seq ?_
        refine cw_block ?_
        refine cw_seq ?_
        refine cw_draw H9 [0, 1, 2, 3, 4, 5, 6, 7, 8, 9, 10, 11, 12, 13, 14, 15, 16, 17] [18, 19, 20] (fun X HX => (HX.pick (m := []) [] rfl (by decide))) (by kernel_rfl) (by kernel_rfl) (by rfl) ?_
        simp only [pick, List.getElem?_cons_succ, List.getElem?_cons_zero]
        refine hk_y (fun Y HY => y_mov rfl rfl) rfl rfl ?_
        refine hk_y (fun Y HY => y_mov rfl rfl) rfl rfl ?_
        refine hk_y (fun Y HY => y_iar (hr.below HY.base) rfl rfl rfl kfland_4 (rfl) (by omega) (Nat.mul_one _) (hgi)) rfl rfl ?_
        refine hk_y (fun Y HY => y_ldr (hr.below HY.base) rfl rfl kfland_5 (hgi)) rfl rfl ?_
        refine hk_y (fun Y HY => y_neq rfl rfl rfl) rfl rfl ?_
        refine hk_y (fun Y HY => y_mov rfl rfl) rfl rfl ?_
        refine hk_splitd tv_all (d := 39) rfl (fun h12 => ?_) (fun h12 => ?_)
        · skip
          refine hk_on (qy_yd fun Y HY => y_mov rfl rfl) rfl rfl rfl rfl ?_
          refine hk_on (qy_yd fun Y HY => y_mov rfl rfl) rfl rfl rfl rfl ?_
          refine hk_on (qy_yd fun Y HY => y_mov rfl rfl) rfl rfl rfl rfl ?_
          refine hk_on (qy_yd fun Y HY => y_rem rfl rfl rfl (by omega) (remN)) rfl rfl rfl rfl ?_
          refine hk_on (qy_yd fun Y HY => y_mov rfl rfl) rfl rfl rfl rfl ?_
          refine hk_on (qy_yd fun Y HY => y_mov rfl rfl) rfl rfl rfl rfl ?_
          refine hk_on (qy_yd fun Y HY => y_quo rfl rfl rfl (by omega) (quoN (by omega))) rfl rfl rfl rfl ?_
          refine hk_on (qy_yd fun Y HY => y_build (places := [(0, 1), (1, 1)]) (parts := [(0, _), (1, _)]) (vs := [(0, _), (1, _)]) (cs := [.int _ _, .int _ _]) rfl Try.underlying90 (by kernel_rfl) kfland_8 rfl ⟨rfl, rfl, trivial⟩ rfl) rfl rfl rfl rfl ?_
          refine hk_on (qy_yd fun Y HY => y_mov rfl rfl) rfl rfl rfl rfl ?_
          refine hk_on (qy_yd fun Y HY => y_mov rfl rfl) rfl rfl rfl rfl ?_
          refine hk_on (qy_yd fun Y HY => y_iar (hr.below HY.base) rfl rfl rfl kfland_4 (rfl) (by omega) (Nat.mul_one _) (hgi)) rfl rfl rfl rfl ?_
          refine hk_on (qy_yd fun Y HY => y_ldr (hr.below HY.base) rfl rfl kfland_5 (hgi)) rfl rfl rfl rfl ?_
          refine hk_nil ?_
          intro w13 H14
          refine tv_on rfl rfl rfl (op_call (gSet w _ g4 a h (partV L i) bl' ((i % a : Nat) : Int) ((i / a : Nat) : Int) (nth L i) _ H14) rfl kfland_9 ⟨rfl, rfl, rfl, trivial⟩) rfl ?_
          rintro _ w16 ⟨bl17, rfl, H15⟩
          refine ⟨(H15.pick (m := []) [] rfl (by decide)), fun w18 e20 => ?_⟩
          have H19 := H15.ext e20
          refine tv_on rfl rfl rfl (Yd.op (y_neq rfl rfl rfl)) rfl ?_
          rintro _ _ ⟨rfl, rfl⟩
          refine ⟨(H19.pick (m := []) [] rfl (by decide)), fun w21 e23 => ?_⟩
          have H22 := H19.ext e23
          refine tv_op (Yd.op (y_pick rfl rfl rfl)) rfl rfl ?_
          rintro _ _ ⟨rfl, rfl⟩
          refine ⟨(H22.pick (m := []) [] rfl (by decide)), fun w24 e26 => ?_⟩
          have H25 := H22.ext e26
          refine tv_nil ?_
          refine fn_next ?_
          refine cw_condd rfl (fun h27 => ?_) (fun h27 => ?_)
          · first | exact absurd hst.1 h27 | cases h27
          · skip
            refine cw_skip ?_
            refine fn_block ?_
            refine fn_next ?_
            refine cw_reg ?_
            refine ry (y_mov rfl rfl) rfl rfl ?_
            refine ry (y_add rfl rfl rfl (wi (by omega))) rfl rfl ?_
            refine ry (y_asg rfl rfl) rfl rfl ?_
            refine reg_nil ?_
            rw [hst.2] at H25
            refine fn_roundJ ⟨i + 1, _, rfl, H25, by omega, rfl⟩ ⟨rfl, trivial⟩ (by omega) (by repeat (first | exact kp_refl | refine kp_app rfl rfl ?_ | refine kp_cons rfl ?_)) rfl
        · skip
          have hz : nth L i = 0 := Classical.not_not.1 h12
          refine hk_off rfl rfl rfl rfl rfl ?_
          refine hk_off rfl rfl rfl rfl rfl ?_
          refine hk_off rfl rfl rfl rfl rfl ?_
          refine hk_off rfl rfl rfl rfl rfl ?_
          refine hk_off rfl rfl rfl rfl rfl ?_
          refine hk_off rfl rfl rfl rfl rfl ?_
          refine hk_off rfl rfl rfl rfl rfl ?_
          refine hk_off rfl rfl rfl rfl rfl ?_
          refine hk_off rfl rfl rfl rfl rfl ?_
          refine hk_off rfl rfl rfl rfl rfl ?_
          refine hk_off rfl rfl rfl rfl rfl ?_
          refine hk_off rfl rfl rfl rfl rfl ?_
          refine hk_nil ?_
          intro w28 H29
          refine tv_off rfl rfl rfl rfl rfl ?_
          refine ⟨(H29.pick (m := []) [] rfl (by decide)), fun w30 e32 => ?_⟩
          have H31 := H29.ext e32
          refine tv_off rfl rfl rfl rfl rfl ?_
          refine ⟨(H31.pick (m := []) [] rfl (by decide)), fun w33 e35 => ?_⟩
          have H34 := H31.ext e35
          refine tv_op (Yd.op (y_pick rfl rfl rfl)) rfl rfl ?_
          rintro _ _ ⟨rfl, rfl⟩
          refine ⟨(H34.pick (m := []) [] rfl (by decide)), fun w36 e38 => ?_⟩
          have H37 := H34.ext e38
          refine tv_nil ?_
          refine fn_next ?_
          refine cw_condf rfl ?_
          refine cw_skip ?_
          refine fn_block ?_
          refine fn_next ?_
          refine cw_reg ?_
          refine ry (y_mov rfl rfl) rfl rfl ?_
          refine ry (y_add rfl rfl rfl (wi (by omega))) rfl rfl ?_
          refine ry (y_asg rfl rfl) rfl rfl ?_
          refine reg_nil ?_
          rw [partV_skip hz] at H37
          refine fn_roundJ ⟨i + 1, _, rfl, H37, by omega, rfl⟩ ⟨rfl, trivial⟩ (by omega) (by repeat (first | exact kp_refl | refine kp_app rfl rfl ?_ | refine kp_cons rfl ?_)) rfl
      · skip
        obtain rfl : i = a * h := by omega
        refine cw_exit ?_
        refine fn_then_exit (fn_then_exit (fn_block_exit ?_))
        refine fn_next ?_
        refine cw_seq ?_
        refine cw_reg ?_
        refine ry (y_mov rfl rfl) rfl rfl ?_
        refine ry (y_asg rfl rfl) rfl rfl ?_
        refine ry (y_asg rfl rfl) rfl rfl ?_
        refine reg_nil ?_
        refine fn_next ?_
        refine cw_ret ?_
        refine fn_retn (vs := [_, _]) rfl ⟨rfl, rfl, trivial⟩ rfl ?_
        have hpa : partV L (a * h) = L := by rw [← hl]; exact partV_all
        rw [hpa] at H9
        exact ⟨_, _, rfl, H9⟩

end Go.Proofs.Ytgkkbeomhkggjaa
