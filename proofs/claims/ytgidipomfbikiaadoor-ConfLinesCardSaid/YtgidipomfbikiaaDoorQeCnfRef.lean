/- cut to what one law reaches -/
import Derived.Test.YtgidipomfbikiaaDoorQeCnfBase
import Derived.Test.YtgidipomfbikiaaDoorQeRefName
import Derived.Test.YtgidipomfbikiaaDoorQeP0
import Derived.Test.YtgidipomfbikiaaDoorQeP6
import Derived.Test.YtgidipomfbikiaaDoorQeP7
import Derived.Test.YtgidipomfbikiaaDoorQeP10
import Derived.Test.YtgidipomfbikiaaDoorQeP12
namespace Go.Proofs.YtgidipomfbikiaaDoor.Cnf
open Go.RowKit Go.Proofs.YtgidipomfbikiaaDoorW.PrintWords Go.Proofs.YtgidipomfbikiaaDoorW.PrintLast Go.Proofs.YtgidipomfbikiaaDoorW.PrintMore Go.Proofs.YtgidipomfbikiaaDoor.P Go.Proofs.YtgidipomfbikiaaDoor.NumM
set_option linter.unusedVariables false
set_option linter.unusedSimpArgs false
theorem tl (s : ByteArray) : s.toList = s.data.toList:=ByteArray.toList_eq ..
end Go.Proofs.YtgidipomfbikiaaDoor.Cnf
