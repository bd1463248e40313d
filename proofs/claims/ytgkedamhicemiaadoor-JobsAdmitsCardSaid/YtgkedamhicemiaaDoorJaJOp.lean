/- cut to what one law reaches -/
import Derived.Test.YtgkedamhicemiaaDoorJaJ3
import Derived.Test.YtgkedamhicemiaaDoorJaJ9
import Derived.Test.YtgkedamhicemiaaDoorJaOpensZ
import Derived.ProofKit
namespace Go.Proofs.YtgkedamhicemiaaDoor.P
open Go.RowKit Go.Proofs.YtgkedamhicemiaaDoorW.PrintWords Go.Proofs.YtgkedamhicemiaaDoorW.PrintLast Go.Proofs.YtgkedamhicemiaaDoorW.PrintMore
attribute [local go_sem] max2_int min2_int max_two min_two max_three min_three max_four min_four
set_option linter.unusedVariables false
set_option linter.unusedSimpArgs false
attribute [local go_sem] isSome_setCell
open Go.Proofs.YtgkedamhicemiaaDoor.OpensZ
theorem b3 : Tryd.prog.bytesOf 3 = 8 := by kernel_rfl
theorem b5 : Tryd.prog.bytesOf 5 = 1 := by kernel_rfl
end Go.Proofs.YtgkedamhicemiaaDoor.P
