/- What Land hands back, in whichever case. -/
import Derived.Test.YtgkkbeomhkggjaaLand
set_option linter.unusedVariables false
set_option linter.unusedSimpArgs false
namespace Go.Proofs.Ytgkkbeomhkggjaa
open Go Go.RowKit

instance {a h most : Int} {L : List Int} : Decidable (LandP a h most L) := by unfold LandP; infer_instance
theorem land_any (a h : Int) (m : Nat) (L : List Int) (A : Option Addr) (n cap : Nat) (w : World) (ha : I6 a) (hh : I6 h) (hm : m ≤ 1024) (hr : Rd w A (vi .i64 L)) (hl : L.length = n) :
    Ret Try.prog 22 [.int .i64 a, .int .i64 h, .slice A n cap, .int .i64 (m : Int)] w (fun z w' => z = .tuple #[.agg #[.int .i64 (if LandP a h m L then a else 0), .int .i64 (if LandP a h m L then h else 0), .slice (if LandP a h m L then A else none) (if LandP a h m L then n else 0) (if LandP a h m L then cap else 0)], .bool (decide (LandP a h m L))] ∧ Below w.heap.size w w') := by
  by_cases p : LandP a h m L
  · obtain ⟨q, r, rfl, rfl, h1, h2, h3, h4, h5, h6, h7⟩ := LandP.nat p
    rw [if_pos p, if_pos p, if_pos p, if_pos p, if_pos p, decide_eq_true p]
    exact land_ok q r m L A n cap w h1 h2 h3 h4 h5 (by omega) hl h7 hm hr
  · rw [if_neg p, if_neg p, if_neg p, if_neg p, if_neg p, decide_eq_false p]
    exact land_no a h m L A n cap w ha hh hm hr hl p
end Go.Proofs.Ytgkkbeomhkggjaa
