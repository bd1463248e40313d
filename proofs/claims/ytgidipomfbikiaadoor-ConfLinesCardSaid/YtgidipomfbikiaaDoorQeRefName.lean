/- cut to what one law reaches -/
import Derived.Test.YtgidipomfbikiaaDoorQeNumW
import Derived.Test.YtgidipomfbikiaaDoorQeP0
import Derived.Test.YtgidipomfbikiaaDoorQeP6
import Derived.Test.YtgidipomfbikiaaDoorQeP12
import Derived.Lib.RuneCountTail
namespace Go.Proofs.YtgidipomfbikiaaDoor.RefName
open Go.RowKit Go.Proofs.YtgidipomfbikiaaDoorW.PrintWords Go.Proofs.YtgidipomfbikiaaDoorW.PrintLast Go.Proofs.YtgidipomfbikiaaDoorW.PrintMore Go.Proofs.YtgidipomfbikiaaDoor.P Go.Proofs.YtgidipomfbikiaaDoor.NumM Go.Lib
set_option linter.unusedVariables false
set_option linter.unusedSimpArgs false
/-- which signs the reference lets stand in a name -/
def okR (c : Int) : Prop:=(48≤c∧c≤57) ∨ (65≤c∧c≤90) ∨ (97≤c∧c≤122) ∨ c = 45 ∨ c = 46 ∨ c = 95 ∨ 160 < c
instance (c : Int) : Decidable (okR c):=by unfold okR;exact inferInstance
/-- the same, without the signs beyond 160 -/
def okA (c : Int) : Prop:=(48≤c∧c≤57) ∨ (65≤c∧c≤90) ∨ (97≤c∧c≤122) ∨ c = 45 ∨ c = 46 ∨ c = 95
instance (c : Int) : Decidable (okA c):=by unfold okA;exact inferInstance
end Go.Proofs.YtgidipomfbikiaaDoor.RefName
