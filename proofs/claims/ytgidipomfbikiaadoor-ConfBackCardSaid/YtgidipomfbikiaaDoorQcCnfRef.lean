/- cut to what one law reaches -/
import Derived.Test.YtgidipomfbikiaaDoorQcCnfBase
import Derived.Test.YtgidipomfbikiaaDoorQcRefName
import Derived.Test.YtgidipomfbikiaaDoorQcP0
import Derived.Test.YtgidipomfbikiaaDoorQcP6
import Derived.Test.YtgidipomfbikiaaDoorQcP7
import Derived.Test.YtgidipomfbikiaaDoorQcP10
import Derived.Test.YtgidipomfbikiaaDoorQcP12
namespace Go.Proofs.YtgidipomfbikiaaDoor.Cnf
open Go.RowKit Go.Proofs.YtgidipomfbikiaaDoorW.PrintWords Go.Proofs.YtgidipomfbikiaaDoorW.PrintLast Go.Proofs.YtgidipomfbikiaaDoorW.PrintMore Go.Proofs.YtgidipomfbikiaaDoor.P Go.Proofs.YtgidipomfbikiaaDoor.NumM
set_option linter.unusedVariables false
set_option linter.unusedSimpArgs false
theorem tl (s : ByteArray) : s.toList = s.data.toList:=ByteArray.toList_eq ..
end Go.Proofs.YtgidipomfbikiaaDoor.Cnf
