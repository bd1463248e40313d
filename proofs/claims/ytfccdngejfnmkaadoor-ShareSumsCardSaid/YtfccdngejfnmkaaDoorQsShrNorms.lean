/- cut to what one law reaches -/
import Derived.Test.YtfccdngejfnmkaaDoorQsShrTree
import Derived.Test.YtfccdngejfnmkaaDoorQsNumCut
import Derived.Test.YtfccdngejfnmkaaDoorQsP0
import Derived.Test.YtfccdngejfnmkaaDoorQsP4
import Derived.Test.YtfccdngejfnmkaaDoorQsP5
import Derived.Test.YtfccdngejfnmkaaDoorQsP6
namespace Go.Proofs.YtfccdngejfnmkaaDoor.Shr
open Go.RowKit Go.Proofs.YtfccdngejfnmkaaDoorW.PrintWords Go.Proofs.YtfccdngejfnmkaaDoorW.PrintLast Go.Proofs.YtfccdngejfnmkaaDoorW.PrintMore Go.Proofs.YtfccdngejfnmkaaDoor.P Go.Proofs.YtfccdngejfnmkaaDoor.NumM
set_option linter.unusedVariables false
set_option linter.unusedSimpArgs false
theorem rd_get? {l : List Int} {i : Nat} {x : Int} (h : l[i]? = some x) : rd l (i : Int) = x := by
  unfold rd; simp [List.getD, h]
end Go.Proofs.YtfccdngejfnmkaaDoor.Shr
