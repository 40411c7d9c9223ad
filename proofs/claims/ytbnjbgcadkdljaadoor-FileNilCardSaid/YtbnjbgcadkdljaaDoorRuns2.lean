/- Layer 5: rests of bytes. -/
import Derived.Test.YtbnjbgcadkdljaaDoorLeb1
set_option linter.unusedVariables false
set_option linter.unusedSimpArgs false
namespace Go.Proofs.YtbnjbgcadkdljaaDoor
open Go Go.RowKit
theorem kfruns2_3 : (Tryd.prog.info? 2).map (fun i => (i.size, i.zero.map Value.cells)) = some (1, some (List.toArray [(.int .i64 0)])) := by kernel_rfl
theorem kfruns2_4 : (Tryd.prog.info? 2).map (fun i => (i.zero.map (·.cells.toList), i.size, i.bytes)) = some (some [(.int .i64 0)], 1, 8) := by kernel_rfl
theorem HS.bare {w0 w : World} {l : List Ob} (h : HS w0 w l) : HS w0 w [] := ⟨h.base, (fun o h => by cases h), List.Pairwise.nil⟩
def rgQ (bs : List Int) (a n : Nat) (zs : List Int) (x e : Int) : Prop := (∃ m : Nat, rget bs n (n + 1) [] a false = .ok (zs, m) ∧ x = m ∧ e = 0) ∨ (rget bs n (n + 1) [] a false = .error e ∧ zs = [] ∧ x = 0 ∧ e ≠ 0)
def rgBad (bs : List Int) (q p : Int) : Prop := q < 0 ∨ (bs.length : Int) < q ∨ p < 0 ∨ 1048576 < p
def rgP (bs : List Int) (q p : Int) (zs : List Int) (x e : Int) : Prop := (rgBad bs q p ∧ zs = [] ∧ x = 0 ∧ e = 11) ∨ (∃ a n : Nat, q = a ∧ p = n ∧ a ≤ bs.length ∧ n ≤ 1048576 ∧ rgQ bs a n zs x e)
section
variable {b out : List Int} {n f at_ m m' : Nat} {last : Bool} {u k e : Int}
theorem rget_e1 (h : out.length < n) (hl : lacc 0 0 (b.drop at_) = .error e) : rget b n (f + 1) out at_ last = .error e := by
  rw [rget, if_neg (by omega), hl]
theorem rget_rest (h : out.length < n) (hl : lacc 0 0 (b.drop at_) = .ok (u, m)) (hu : u ≠ 0) : rget b n (f + 1) out at_ last = rget b n f (out ++ [unfoldU u]) (at_ + m) false := by
  rw [rget, if_neg (by omega), hl]; simp only; rw [if_pos hu]
theorem rget_behind (h : out.length < n) (hl : lacc 0 0 (b.drop at_) = .ok (u, m)) (hu : u = 0) (hla : last = true) : rget b n (f + 1) out at_ last = .error 13 := by
  rw [rget, if_neg (by omega), hl]; simp only; rw [if_neg (by omega), if_pos hla]
theorem rget_e2 (h : out.length < n) (hl : lacc 0 0 (b.drop at_) = .ok (u, m)) (hu : u = 0) (hla : ¬ last = true) (hl2 : lacc 0 0 (b.drop (at_ + m)) = .error e) : rget b n (f + 1) out at_ last = .error e := by
  rw [rget, if_neg (by omega), hl]; simp only; rw [if_neg (by omega), if_neg hla, hl2]
theorem rget_far (h : out.length < n) (hl : lacc 0 0 (b.drop at_) = .ok (u, m)) (hu : u = 0) (hla : ¬ last = true) (hl2 : lacc 0 0 (b.drop (at_ + m)) = .ok (k, m')) (hk : (n : Int) - out.length ≤ k) : rget b n (f + 1) out at_ last = .error 13 := by
  rw [rget, if_neg (by omega), hl]; simp only; rw [if_neg (by omega), if_neg hla, hl2]; simp only; rw [if_pos hk]
theorem rget_noughts (h : out.length < n) (hl : lacc 0 0 (b.drop at_) = .ok (u, m)) (hu : u = 0) (hla : ¬ last = true) (hl2 : lacc 0 0 (b.drop (at_ + m)) = .ok (k, m')) (hk : ¬ (n : Int) - out.length ≤ k) : rget b n (f + 1) out at_ last = rget b n f (out ++ List.replicate (k.toNat + 1) 0) (at_ + m + m') true := by
  rw [rget, if_neg (by omega), hl]; simp only; rw [if_neg (by omega), if_neg hla, hl2]; simp only; rw [if_neg hk]
theorem rget_done (h : n ≤ out.length) : rget b n (f + 1) out at_ last = .ok (out, at_) := by rw [rget, if_pos h]
end
theorem vi_rep {k : IntKind} {out : List Int} {m : Nat} : vi k out ++ List.replicate m (.int k 0) = vi k (out ++ List.replicate m 0) := by simp [vi]

end Go.Proofs.YtbnjbgcadkdljaaDoor
