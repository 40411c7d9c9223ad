/- Layer 5: rests of bytes. -/
import Derived.Test.YtbnjbgcadkdljaaGreatDoorLeb1
set_option linter.unusedVariables false
set_option linter.unusedSimpArgs false
namespace Go.Proofs.YtbnjbgcadkdljaaGreatDoor
open Go Go.RowKit
theorem kfruns2_1 : callB Tryz.prog 93 = true := by kernel_rfl
theorem kfruns2_2 : callB Tryz.prog 94 = true := by kernel_rfl
theorem kfruns2_3 : (Tryz.prog.info? 2).map (fun i => (i.size, i.zero.map Value.cells)) = some (1, some (List.toArray [(.int .i64 0)])) := by kernel_rfl
theorem kfruns2_4 : (Tryz.prog.info? 2).map (fun i => (i.zero.map (·.cells.toList), i.size, i.bytes)) = some (some [(.int .i64 0)], 1, 8) := by kernel_rfl
theorem HS.bare {w0 w : World} {l : List Ob} (h : HS w0 w l) : HS w0 w [] := ⟨h.base, (fun o h => by cases h), List.Pairwise.nil⟩
def rgQ (bs : List Int) (a n : Nat) (zs : List Int) (x e : Int) : Prop := (∃ m : Nat, rget bs n (n + 1) [] a false = .ok (zs, m) ∧ x = m ∧ e = 0) ∨ (rget bs n (n + 1) [] a false = .error e ∧ zs = [] ∧ x = 0 ∧ e ≠ 0)
def rgBad (bs : List Int) (q p : Int) : Prop := q < 0 ∨ (bs.length : Int) < q ∨ p < 0 ∨ 1048576 < p
def rgP (bs : List Int) (q p : Int) (zs : List Int) (x e : Int) : Prop := (rgBad bs q p ∧ zs = [] ∧ x = 0 ∧ e = 11) ∨ (∃ a n : Nat, q = a ∧ p = n ∧ a ≤ bs.length ∧ n ≤ 1048576 ∧ rgQ bs a n zs x e)
section
variable {b out : List Int} {n f at_ m m' : Nat} {last : Bool} {u k e : Int}
theorem rget_e1 (h : out.length < n) (hl : lacc 0 0 (b.drop at_) = .error e) : rget b n (f + 1) out at_ last = .error e := by
  rw [rget, if_neg (by omega), hl]
theorem rget_rest (h : out.length < n) (hl : lacc 0 0 (b.drop at_) = .ok (u, m)) (hu : u ≠ 0) : rget b n (f + 1) out at_ last = rget b n f (out ++ [unfoldU u]) (at_ + m) false := by
  rw [rget, if_neg (by omega), hl]; simp only; rw [if_pos hu]
theorem rget_behind (h : out.length < n) (hl : lacc 0 0 (b.drop at_) = .ok (u, m)) (hu : u = 0) (hla : last = true) : rget b n (f + 1) out at_ last = .error 13 := by
  rw [rget, if_neg (by omega), hl]; simp only; rw [if_neg (by omega), if_pos hla]
theorem rget_e2 (h : out.length < n) (hl : lacc 0 0 (b.drop at_) = .ok (u, m)) (hu : u = 0) (hla : ¬ last = true) (hl2 : lacc 0 0 (b.drop (at_ + m)) = .error e) : rget b n (f + 1) out at_ last = .error e := by
  rw [rget, if_neg (by omega), hl]; simp only; rw [if_neg (by omega), if_neg hla, hl2]
theorem rget_far (h : out.length < n) (hl : lacc 0 0 (b.drop at_) = .ok (u, m)) (hu : u = 0) (hla : ¬ last = true) (hl2 : lacc 0 0 (b.drop (at_ + m)) = .ok (k, m')) (hk : (n : Int) - out.length ≤ k) : rget b n (f + 1) out at_ last = .error 13 := by
  rw [rget, if_neg (by omega), hl]; simp only; rw [if_neg (by omega), if_neg hla, hl2]; simp only; rw [if_pos hk]
theorem rget_noughts (h : out.length < n) (hl : lacc 0 0 (b.drop at_) = .ok (u, m)) (hu : u = 0) (hla : ¬ last = true) (hl2 : lacc 0 0 (b.drop (at_ + m)) = .ok (k, m')) (hk : ¬ (n : Int) - out.length ≤ k) : rget b n (f + 1) out at_ last = rget b n f (out ++ List.replicate (k.toNat + 1) 0) (at_ + m + m') true := by
  rw [rget, if_neg (by omega), hl]; simp only; rw [if_neg (by omega), if_neg hla, hl2]; simp only; rw [if_neg hk]
theorem rget_done (h : n ≤ out.length) : rget b n (f + 1) out at_ last = .ok (out, at_) := by rw [rget, if_pos h]
end
theorem vi_rep {k : IntKind} {out : List Int} {m : Nat} : vi k out ++ List.replicate m (.int k 0) = vi k (out ++ List.replicate m 0) := by simp [vi]

set_option maxRecDepth 100000 in
set_option maxHeartbeats 1000000 in
theorem runsGet (A : Option Addr) (nb capb : Nat) (q p : Int) (bs : List Int) (w : World) (hb : Rd w A (vi .u8 bs)) (hbl : bs.length = nb) (hcap : nb ≤ capb) (hB : okB bs) (hnb : nb ≤ 100000000) :
    Ret Tryz.prog 60 [.slice A nb capb, .int .i64 q, .int .i64 p] w (fun v w' => ∃ A' c zs x e, v = .tuple #[.slice A' zs.length c, .int .i64 x, .int .i64 e] ∧ rgP bs q p zs x e ∧ HS w w' [.row A' zs.length c (vi .i64 zs) 2 1]) := by
 refine ret_enter Tryz.func60 rfl rfl rfl ?_
 have H0 := HS.start w
 refine cw_seq ?_
 refine cw_reg ?_
 refine ry (y_asg rfl rfl) rfl rfl ?_
 refine ry (y_asg rfl rfl) rfl rfl ?_
 refine ry (y_asg rfl rfl) rfl rfl ?_
 refine reg_nil ?_
 refine fn_next ?_
 refine cw_seq ?_
 refine cw_seq ?_
 refine cw_reg ?_
 refine ry (y_mov rfl rfl) rfl rfl ?_
 refine ry (y_lss rfl rfl rfl) rfl rfl ?_
 refine ry (y_mov rfl rfl) rfl rfl ?_
 refine rg_splitd (d := 17) rfl (fun h1 => ?_) (fun h1 => ?_)
 ·skip
  refine rg_off rfl rfl rfl rfl rfl ?_
  refine rg_off rfl rfl rfl rfl rfl ?_
  refine rg_off rfl rfl rfl rfl rfl ?_
  refine rg_off rfl rfl rfl rfl rfl ?_
  refine ry (y_pick rfl rfl rfl) rfl rfl ?_
  refine ry (y_mov rfl rfl) rfl rfl ?_
  refine rg_off rfl rfl rfl rfl rfl ?_
  refine rg_off rfl rfl rfl rfl rfl ?_
  refine ry (y_pick rfl rfl rfl) rfl rfl ?_
  refine ry (y_mov rfl rfl) rfl rfl ?_
  refine rg_off rfl rfl rfl rfl rfl ?_
  refine rg_off rfl rfl rfl rfl rfl ?_
  refine ry (y_pick rfl rfl rfl) rfl rfl ?_
  refine reg_nil ?_
  refine fn_next ?_
  refine cw_condt rfl ?_
  refine cw_seq ?_
  refine cw_reg ?_
  refine ry (y_asg rfl rfl) rfl rfl ?_
  refine ry (y_asg rfl rfl) rfl rfl ?_
  refine ry (y_asg rfl rfl) rfl rfl ?_
  refine reg_nil ?_
  refine fn_next ?_
  refine cw_ret ?_
  refine fn_then_ret ?_
  refine fn_retn (vs := [_, _, _]) rfl ⟨rfl, rfl, rfl, trivial⟩ rfl ?_
  exact ⟨none, 0, [], 0, 11, rfl, .inl ⟨by unfold rgBad; omega, rfl, rfl, rfl⟩, (HS.bare H0).nilrow _ _⟩
 ·skip
  refine rgy (y_mov rfl rfl) rfl rfl rfl rfl ?_
  refine rgy (y_mov rfl rfl) rfl rfl rfl rfl ?_
  refine rgy (y_len rfl Tryz.underlying22 rfl) rfl rfl rfl rfl ?_
  refine rgy (y_gtr rfl rfl rfl) rfl rfl rfl rfl ?_
  refine ry (y_pick rfl rfl rfl) rfl rfl ?_
  refine ry (y_mov rfl rfl) rfl rfl ?_
  refine rg_splitd (d := 23) rfl (fun h2 => ?_) (fun h2 => ?_)
  ·skip
   refine rg_off rfl rfl rfl rfl rfl ?_
   refine rg_off rfl rfl rfl rfl rfl ?_
   refine ry (y_pick rfl rfl rfl) rfl rfl ?_
   refine ry (y_mov rfl rfl) rfl rfl ?_
   refine rg_off rfl rfl rfl rfl rfl ?_
   refine rg_off rfl rfl rfl rfl rfl ?_
   refine ry (y_pick rfl rfl rfl) rfl rfl ?_
   refine reg_nil ?_
   refine fn_next ?_
   refine cw_condt rfl ?_
   refine cw_seq ?_
   refine cw_reg ?_
   refine ry (y_asg rfl rfl) rfl rfl ?_
   refine ry (y_asg rfl rfl) rfl rfl ?_
   refine ry (y_asg rfl rfl) rfl rfl ?_
   refine reg_nil ?_
   refine fn_next ?_
   refine cw_ret ?_
   refine fn_then_ret ?_
   refine fn_retn (vs := [_, _, _]) rfl ⟨rfl, rfl, rfl, trivial⟩ rfl ?_
   exact ⟨none, 0, [], 0, 11, rfl, .inl ⟨by unfold rgBad; omega, rfl, rfl, rfl⟩, (HS.bare H0).nilrow _ _⟩
  ·skip
   refine rgy (y_mov rfl rfl) rfl rfl rfl rfl ?_
   refine rgy (y_lss rfl rfl rfl) rfl rfl rfl rfl ?_
   refine ry (y_pick rfl rfl rfl) rfl rfl ?_
   refine ry (y_mov rfl rfl) rfl rfl ?_
   refine rg_splitd (d := 27) rfl (fun h3 => ?_) (fun h3 => ?_)
   ·skip
    refine rg_off rfl rfl rfl rfl rfl ?_
    refine rg_off rfl rfl rfl rfl rfl ?_
    refine ry (y_pick rfl rfl rfl) rfl rfl ?_
    refine reg_nil ?_
    refine fn_next ?_
    refine cw_condt rfl ?_
    refine cw_seq ?_
    refine cw_reg ?_
    refine ry (y_asg rfl rfl) rfl rfl ?_
    refine ry (y_asg rfl rfl) rfl rfl ?_
    refine ry (y_asg rfl rfl) rfl rfl ?_
    refine reg_nil ?_
    refine fn_next ?_
    refine cw_ret ?_
    refine fn_then_ret ?_
    refine fn_retn (vs := [_, _, _]) rfl ⟨rfl, rfl, rfl, trivial⟩ rfl ?_
    exact ⟨none, 0, [], 0, 11, rfl, .inl ⟨by unfold rgBad; omega, rfl, rfl, rfl⟩, (HS.bare H0).nilrow _ _⟩
   ·skip
    refine rgy (y_mov rfl rfl) rfl rfl rfl rfl ?_
    refine rgy (y_gtr rfl rfl rfl) rfl rfl rfl rfl ?_
    refine ry (y_pick rfl rfl rfl) rfl rfl ?_
    refine reg_nil ?_
    refine fn_next ?_
    refine cw_condd rfl (fun h4 => ?_) (fun h4 => ?_)
    ·skip
     refine cw_seq ?_
     refine cw_reg ?_
     refine ry (y_asg rfl rfl) rfl rfl ?_
     refine ry (y_asg rfl rfl) rfl rfl ?_
     refine ry (y_asg rfl rfl) rfl rfl ?_
     refine reg_nil ?_
     refine fn_next ?_
     refine cw_ret ?_
     refine fn_then_ret ?_
     refine fn_retn (vs := [_, _, _]) rfl ⟨rfl, rfl, rfl, trivial⟩ rfl ?_
     exact ⟨none, 0, [], 0, 11, rfl, .inl ⟨by unfold rgBad; omega, rfl, rfl, rfl⟩, (HS.bare H0).nilrow _ _⟩
    ·skip
     obtain ⟨a, rfl⟩ : ∃ a : Nat, q = a := ⟨q.toNat, by omega⟩
     obtain ⟨n, rfl⟩ : ∃ n : Nat, p = n := ⟨p.toNat, by omega⟩
     refine cw_skip ?_
     refine fn_next ?_
     refine cw_seq ?_
     refine cw_reg ?_
     refine ry (y_asg rfl rfl) rfl rfl ?_
     refine reg_nil ?_
     refine fn_next ?_
     refine cw_seq ?_
     refine cw_reg ?_
     refine ry (y_asg rfl rfl) rfl rfl ?_
     refine reg_nil ?_
     refine fn_next ?_
     refine cw_seq ?_
     refine cw_block ?_
     have H5 := H0.nilrow 2 1
     refine cw_loopJ [1, 6, 7, 8, 9, 10, 11, 12, 13, 14, 31, 32, 33, 34, 35, 36, 37, 38, 39, 40, 41, 42, 43, 44, 45, 46, 47, 48, 49, 50, 51, 52, 53, 54, 55, 56, 57, 58, 59, 60, 61, 62, 63, 64, 65, 66, 67, 68, 69, 70, 71, 72, 73, 74, 75, 76, 77] (fun M wl ml => ∃ (f b cp : Nat) (out : List Int) (A1 : Option Addr) (last : Bool), M = [(9, .slice A1 out.length cp), (1, .int .i64 (b : Int)), (10, .bool last)] ∧ HS w wl [Ob.row A1 out.length cp (vi .i64 out) 2 1] ∧ (b ≤ bs.length) ∧ (out.length ≤ n) ∧ (rget bs n (n + 1) [] a false = rget bs n f out b last) ∧ (n < out.length + f) ∧ ml = f + 1) ⟨n + 1, a, 0, [], none, false, rfl, H5, by omega, Nat.zero_le _, rfl, by omega, rfl⟩ ⟨rfl, rfl, rfl, trivial⟩ ?_
     rintro M w6 m8 ⟨f, b, cp, out, A1, last, rfl, H7, hbb, hon, hrg, hf, rfl⟩
     refine cw_seq ?_
     refine cw_seq ?_
     refine cw_reg ?_
     refine ry (y_mov rfl rfl) rfl rfl ?_
     refine ry (y_len rfl Tryz.underlying24 rfl) rfl rfl ?_
     refine ry (y_mov rfl rfl) rfl rfl ?_
     refine ry (y_lss rfl rfl rfl) rfl rfl ?_
     refine reg_nil ?_
     refine fn_next ?_
     refine cw_condd rfl (fun h9 => ?_) (fun h9 => ?_)
     ·skip
      obtain ⟨g, rfl⟩ : ∃ g, f = g + 1 := ⟨f - 1, by omega⟩
      refine cw_skip ?_
      refine fn_next ?_
      refine cw_block ?_
      refine cw_seq ?_
      refine cw_reg ?_
      refine ry (y_mov rfl rfl) rfl rfl ?_
      refine ry (y_mov rfl rfl) rfl rfl ?_
      refine reg_op (op_call (lebGet A nb capb (b) bs _ (hb.below H7.base) hbl hcap hB (by omega) hnb) rfl kfruns2_1 ⟨rfl, rfl, trivial⟩) rfl rfl ?_
      rintro _ w11 ⟨u, x, e, rfl, hQ, e10⟩
      have H12 := H7.ext e10
      refine ry (y_mov rfl rfl) rfl rfl ?_
      refine ry (y_ext rfl rfl rfl) rfl rfl ?_
      refine ry (y_ext rfl rfl rfl) rfl rfl ?_
      refine ry (y_ext rfl rfl rfl) rfl rfl ?_
      refine ry (y_asg rfl rfl) rfl rfl ?_
      refine ry (y_asg rfl rfl) rfl rfl ?_
      refine ry (y_asg rfl rfl) rfl rfl ?_
      refine reg_nil ?_
      refine fn_next ?_
      refine cw_seq ?_
      refine cw_seq ?_
      refine cw_reg ?_
      refine ry (y_mov rfl rfl) rfl rfl ?_
      refine ry (y_neq rfl rfl rfl) rfl rfl ?_
      refine reg_nil ?_
      refine fn_next ?_
      refine cw_condd rfl (fun he0 => ?_) (fun he0 => ?_)
      ·skip
       have hl : lacc 0 0 (bs.drop (b)) = .error e := hQ.elim (fun ⟨m, _, _, he⟩ => absurd he he0) (fun h => h.1)
       refine cw_seq ?_
       refine cw_reg ?_
       refine ry (y_mov rfl rfl) rfl rfl ?_
       refine ry (y_asg rfl rfl) rfl rfl ?_
       refine ry (y_asg rfl rfl) rfl rfl ?_
       refine ry (y_asg rfl rfl) rfl rfl ?_
       refine reg_nil ?_
       refine fn_next ?_
       refine cw_ret ?_
       refine fn_then_ret (fn_block_ret (fn_then_ret (fn_block_ret (fn_then_ret ?_))))
       refine fn_retn (vs := [_, _, _]) rfl ⟨rfl, rfl, rfl, trivial⟩ rfl ?_
       exact ⟨none, 0, [], 0, e, rfl, .inr ⟨a, n, rfl, rfl, by omega, by omega, .inr ⟨by rw [hrg, rget_e1 (by omega) hl], rfl, rfl, he0⟩⟩, (HS.bare H12).nilrow _ _⟩
      ·skip
       obtain ⟨m, hl, hxm⟩ : ∃ mm, lacc 0 0 (bs.drop (b)) = .ok (u, mm) ∧ x = ((b : Nat) : Int) + mm := hQ.elim (fun ⟨m, h1, h2, _⟩ => ⟨m, h1, h2⟩) (fun h => absurd (by omega) h.2.2.2)
       obtain ⟨hum, hpm, _, hmlm, _⟩ := lacc_of (okB_drop hB _) hl
       rw [List.length_drop] at hmlm
       have hbm : u < 18446744073709551616 := by have := hum.2; omega
       obtain rfl : x = ((b + m : Nat) : Int) := by omega
       refine cw_skip ?_
       refine fn_next ?_
       refine cw_seq ?_
       refine cw_reg ?_
       refine ry (y_mov rfl rfl) rfl rfl ?_
       refine ry (y_asg rfl rfl) rfl rfl ?_
       refine reg_nil ?_
       refine fn_next ?_
       refine cw_seq ?_
       refine cw_seq ?_
       refine cw_reg ?_
       refine ry (y_mov rfl rfl) rfl rfl ?_
       refine ry (y_neq rfl rfl rfl) rfl rfl ?_
       refine reg_nil ?_
       refine fn_next ?_
       refine cw_condd rfl (fun hu0 => ?_) (fun hu0 => ?_)
       ·skip
        refine cw_seq ?_
        refine cw_reg ?_
        refine ry (y_mov rfl rfl) rfl rfl ?_
        refine ry (y_mov rfl rfl) rfl rfl ?_
        refine reg_op (op_call (lebUnfold u _ ⟨by omega, hbm⟩) rfl kfruns2_2 ⟨rfl, trivial⟩) rfl rfl ?_
        rintro _ w16 ⟨rfl, e15⟩
        have H17 := H12.ext e15
        refine reg_op (op_lit (parts := [(0, _)]) (vs := [(0, _)]) (cs := [.int _ _]) H17 rfl Tryz.underlying24 kfruns2_3 rfl ⟨rfl, trivial⟩ rfl rfl) rfl rfl ?_
        rintro _ w19 ⟨b18, rfl, H20⟩
        have H21 := H20.asrow (m := 1) (size := 1) rfl (by decide)
        refine reg_op (op_app (i := 1) (ys := [.int .i64 (unfoldU u)]) H21 rfl rfl rfl rfl (H21.rd (i := 0) rfl) (rfl) (rfl) Tryz.underlying24 kfruns2_4 rfl rfl (by unfold maxLen; omega) (by omega)) rfl rfl ?_
        rintro _ w24 ⟨A22, c23, rfl, H25⟩
        refine ry (y_asg rfl rfl) rfl rfl ?_
        refine reg_nil ?_
        refine fn_next ?_
        refine cw_seq ?_
        refine cw_reg ?_
        refine ry (y_asg rfl rfl) rfl rfl ?_
        refine reg_nil ?_
        refine fn_next ?_
        refine cw_exit ?_
        refine fn_then_exit (fn_block_exit ?_)
        have hpl : out.length + 1 = (out ++ [unfoldU u]).length := by rw [List.length_append]; rfl
        rw [vi_push, hpl] at H25
        refine fn_roundJ ⟨g, b + m, _, out ++ [unfoldU u], _, false, rfl, (H25.pick (m := [_]) [1] rfl (by decide)), by omega, by rw [← hpl]; omega, by rw [hrg, rget_rest (by omega) hl hu0], by rw [← hpl]; omega, rfl⟩ ⟨by rw [← hpl]; rfl, rfl, rfl, trivial⟩ (by omega) (by repeat (first | exact kp_refl | refine kp_app rfl rfl ?_ | refine kp_cons rfl ?_)) rfl
       ·skip
        refine cw_skip ?_
        refine fn_next ?_
        refine cw_seq ?_
        refine cw_seq ?_
        refine cw_reg ?_
        refine ry (y_mov rfl rfl) rfl rfl ?_
        refine reg_nil ?_
        refine fn_next ?_
        refine cw_cond rfl (fun hla => ?_) (fun hla => ?_)
        ·skip
         refine cw_seq ?_
         refine cw_reg ?_
         refine ry (y_asg rfl rfl) rfl rfl ?_
         refine ry (y_asg rfl rfl) rfl rfl ?_
         refine ry (y_asg rfl rfl) rfl rfl ?_
         refine reg_nil ?_
         refine fn_next ?_
         refine cw_ret ?_
         refine fn_then_ret (fn_block_ret (fn_then_ret (fn_block_ret (fn_then_ret ?_))))
         refine fn_retn (vs := [_, _, _]) rfl ⟨rfl, rfl, rfl, trivial⟩ rfl ?_
         exact ⟨none, 0, [], 0, 13, rfl, .inr ⟨a, n, rfl, rfl, by omega, by omega, .inr ⟨by rw [hrg, rget_behind (by omega) hl (by omega) hla], rfl, rfl, by decide⟩⟩, (HS.bare H12).nilrow _ _⟩
        ·skip
         refine cw_skip ?_
         refine fn_next ?_
         refine cw_seq ?_
         refine cw_reg ?_
         refine ry (y_mov rfl rfl) rfl rfl ?_
         refine ry (y_mov rfl rfl) rfl rfl ?_
         refine reg_op (op_call (lebGet A nb capb (b + m) bs _ (hb.below H12.base) hbl hcap hB (by omega) hnb) rfl kfruns2_1 ⟨rfl, rfl, trivial⟩) rfl rfl ?_
         rintro _ w28 ⟨k, y, e2, rfl, hQ2, e27⟩
         have H29 := H12.ext e27
         refine ry (y_mov rfl rfl) rfl rfl ?_
         refine ry (y_ext rfl rfl rfl) rfl rfl ?_
         refine ry (y_ext rfl rfl rfl) rfl rfl ?_
         refine ry (y_ext rfl rfl rfl) rfl rfl ?_
         refine ry (y_asg rfl rfl) rfl rfl ?_
         refine ry (y_asg rfl rfl) rfl rfl ?_
         refine ry (y_asg rfl rfl) rfl rfl ?_
         refine reg_nil ?_
         refine fn_next ?_
         refine cw_seq ?_
         refine cw_block ?_
         refine cw_seq ?_
         refine cw_reg ?_
         refine ry (y_mov rfl rfl) rfl rfl ?_
         refine ry (y_neq rfl rfl rfl) rfl rfl ?_
         refine ry (y_asg rfl rfl) rfl rfl ?_
         refine reg_nil ?_
         refine fn_next ?_
         refine cw_condd rfl (fun he2 => ?_) (fun he2 => ?_)
         ·skip
          have hl2 : lacc 0 0 (bs.drop (b + m)) = .error e2 := hQ2.elim (fun ⟨m, _, _, he⟩ => absurd he he2) (fun h => h.1)
          refine cw_seq ?_
          refine cw_reg ?_
          refine ry (y_mov rfl rfl) rfl rfl ?_
          refine ry (y_asg rfl rfl) rfl rfl ?_
          refine ry (y_asg rfl rfl) rfl rfl ?_
          refine ry (y_asg rfl rfl) rfl rfl ?_
          refine reg_nil ?_
          refine fn_next ?_
          refine cw_ret ?_
          refine fn_block_ret (fn_then_ret (fn_block_ret (fn_then_ret (fn_block_ret (fn_then_ret ?_)))))
          refine fn_retn (vs := [_, _, _]) rfl ⟨rfl, rfl, rfl, trivial⟩ rfl ?_
          exact ⟨none, 0, [], 0, e2, rfl, .inr ⟨a, n, rfl, rfl, by omega, by omega, .inr ⟨by rw [hrg, rget_e2 (by omega) hl (by omega) (by simp [hla]) hl2], rfl, rfl, he2⟩⟩, (HS.bare H29).nilrow _ _⟩
         ·skip
          obtain ⟨m2, hl2, hxm2⟩ : ∃ mm, lacc 0 0 (bs.drop (b + m)) = .ok (k, mm) ∧ y = ((b + m : Nat) : Int) + mm := hQ2.elim (fun ⟨m, h1, h2, _⟩ => ⟨m, h1, h2⟩) (fun h => absurd (by omega) h.2.2.2)
          obtain ⟨hum2, hpm2, _, hmlm2, _⟩ := lacc_of (okB_drop hB _) hl2
          rw [List.length_drop] at hmlm2
          have hbm2 : k < 18446744073709551616 := by have := hum2.2; omega
          obtain rfl : y = ((b + m + m2 : Nat) : Int) := by omega
          refine cw_seq ?_
          refine cw_reg ?_
          refine ry (y_mov rfl rfl) rfl rfl ?_
          refine ry (y_mov rfl rfl) rfl rfl ?_
          refine ry (y_mov rfl rfl) rfl rfl ?_
          refine ry (y_len rfl Tryz.underlying24 rfl) rfl rfl ?_
          refine ry (y_sub rfl rfl rfl (wi (by omega))) rfl rfl ?_
          refine ry (y_conv rfl Tryz.underlying3 Tryz.underlying123 rfl (wu64 (by omega))) rfl rfl ?_
          refine ry (y_geq rfl rfl rfl) rfl rfl ?_
          refine ry (y_asg rfl rfl) rfl rfl ?_
          refine reg_nil ?_
          refine fn_next ?_
          refine cw_condd rfl (fun hkn => ?_) (fun hkn => ?_)
          ·skip
           refine cw_seq ?_
           refine cw_reg ?_
           refine ry (y_asg rfl rfl) rfl rfl ?_
           refine ry (y_asg rfl rfl) rfl rfl ?_
           refine ry (y_asg rfl rfl) rfl rfl ?_
           refine reg_nil ?_
           refine fn_next ?_
           refine cw_ret ?_
           refine fn_block_ret (fn_then_ret (fn_block_ret (fn_then_ret (fn_block_ret (fn_then_ret ?_)))))
           refine fn_retn (vs := [_, _, _]) rfl ⟨rfl, rfl, rfl, trivial⟩ rfl ?_
           exact ⟨none, 0, [], 0, 13, rfl, .inr ⟨a, n, rfl, rfl, by omega, by omega, .inr ⟨by rw [hrg, rget_far (by omega) hl (by omega) (by simp [hla]) hl2 (by omega)], rfl, rfl, by decide⟩⟩, (HS.bare H29).nilrow _ _⟩
          ·skip
           refine cw_skip ?_
           refine fn_block ?_
           refine fn_next ?_
           refine cw_seq ?_
           refine cw_reg ?_
           refine ry (y_mov rfl rfl) rfl rfl ?_
           refine ry (y_mov rfl rfl) rfl rfl ?_
           refine ry (y_add rfl rfl rfl (wu64 (by omega))) rfl rfl ?_
           refine reg_op (op_appz (i := 0) (k.toNat + 1) H29 rfl rfl rfl (by omega) (by omega) rfl rfl Tryz.underlying24 Tryz.underlying123 kfruns2_4 (by unfold maxLen; omega) (by omega)) rfl rfl ?_
           rintro _ w34 ⟨A32, c33, rfl, H35⟩
           refine ry (y_asg rfl rfl) rfl rfl ?_
           refine reg_nil ?_
           refine fn_next ?_
           refine cw_reg ?_
           refine ry (y_mov rfl rfl) rfl rfl ?_
           refine ry (y_asg rfl rfl) rfl rfl ?_
           refine ry (y_asg rfl rfl) rfl rfl ?_
           refine reg_nil ?_
           refine fn_block ?_
           have hpl : out.length + (k.toNat + 1) = (out ++ List.replicate (k.toNat + 1) 0).length := by rw [List.length_append, List.length_replicate]
           rw [vi_rep, hpl] at H35
           refine fn_roundJ ⟨g, b + m + m2, _, out ++ List.replicate (k.toNat + 1) 0, _, true, rfl, H35, by omega, by rw [← hpl]; omega, by rw [hrg, rget_noughts (by omega) hl (by omega) (by simp [hla]) hl2 (by omega)], by rw [← hpl]; omega, rfl⟩ ⟨by rw [← hpl]; rfl, rfl, rfl, trivial⟩ (by omega) (by repeat (first | exact kp_refl | refine kp_app rfl rfl ?_ | refine kp_cons rfl ?_)) rfl
     ·skip
      refine cw_exit ?_
      refine fn_then_exit (fn_then_exit (fn_block_exit ?_))
      refine fn_next ?_
      refine cw_seq ?_
      refine cw_reg ?_
      refine ry (y_mov rfl rfl) rfl rfl ?_
      refine ry (y_mov rfl rfl) rfl rfl ?_
      refine ry (y_asg rfl rfl) rfl rfl ?_
      refine ry (y_asg rfl rfl) rfl rfl ?_
      refine ry (y_asg rfl rfl) rfl rfl ?_
      refine reg_nil ?_
      refine fn_next ?_
      refine cw_ret ?_
      refine fn_retn (vs := [_, _, _]) rfl ⟨rfl, rfl, rfl, trivial⟩ rfl ?_
      obtain ⟨g, rfl⟩ : ∃ g, f = g + 1 := ⟨f - 1, by omega⟩
      exact ⟨_, _, out, _, 0, rfl, .inr ⟨a, n, rfl, rfl, by omega, by omega, .inl ⟨b, by rw [hrg, rget_done (by omega)], rfl, rfl⟩⟩, H7⟩

end Go.Proofs.YtbnjbgcadkdljaaGreatDoor
