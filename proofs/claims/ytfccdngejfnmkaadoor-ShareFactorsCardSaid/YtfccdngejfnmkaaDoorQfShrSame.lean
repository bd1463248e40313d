/- cut to what one law reaches -/
import Derived.Test.YtfccdngejfnmkaaDoorQfNumCut
import Derived.Test.YtfccdngejfnmkaaDoorQfShrBase
import Derived.Test.YtfccdngejfnmkaaDoorQfP0
import Derived.Test.YtfccdngejfnmkaaDoorQfP4
namespace Go.Proofs.YtfccdngejfnmkaaDoor.Shr
open Go.RowKit Go.Proofs.YtfccdngejfnmkaaDoorW.PrintWords Go.Proofs.YtfccdngejfnmkaaDoorW.PrintLast Go.Proofs.YtfccdngejfnmkaaDoorW.PrintMore Go.Proofs.YtfccdngejfnmkaaDoor.P Go.Proofs.YtfccdngejfnmkaaDoor.NumM
set_option linter.unusedVariables false
theorem same_l0 (a : List Int) (ha : a.length ≤ 1000) : ∀ (m j : Nat), j + m = a.length → Ev (fun k => gangerref00_SameInts.l0 k a a (j : Int)) true
  | 0, j, hj => by
    refine Ev.step (fun k => by rw [gangerref00_SameInts.l0]) ?_
    exact ev_neg (by omega) (Ev.now _)
  | m + 1, j, hj => by
    have ih := same_l0 a ha m (j + 1) (by omega)
    refine Ev.step (fun k => by rw [gangerref00_SameInts.l0]) ?_
    refine ev_pos (by omega) (ev_pos (by omega) (ev_pos (by omega) (ev_pos rfl ?_)))
    rw [show wrap64 ((j : Int) + 1) = ((j + 1 : Nat) : Int) by rw [w64 (by omega)]; omega]
    exact ih
theorem same_ev (a : List Int) (ha : a.length ≤ 1000) : Ev (fun k => gangerref00_SameInts.f k a a) true := by
  unfold gangerref00_SameInts.f
  refine ev_pos rfl ?_
  exact same_l0 a ha a.length 0 (by omega)
end Go.Proofs.YtfccdngejfnmkaaDoor.Shr
