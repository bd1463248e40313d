/- cut to what one law reaches -/
import Derived.Test.YtgidipomfbikiaaDoorQfCnfBase
import Derived.Test.YtgidipomfbikiaaDoorQfRefName
import Derived.Test.YtgidipomfbikiaaDoorQfP0
import Derived.Test.YtgidipomfbikiaaDoorQfP6
import Derived.Test.YtgidipomfbikiaaDoorQfP7
import Derived.Test.YtgidipomfbikiaaDoorQfP10
import Derived.Test.YtgidipomfbikiaaDoorQfP14
namespace Go.Proofs.YtgidipomfbikiaaDoor.Cnf
open Go.RowKit Go.Proofs.YtgidipomfbikiaaDoorW.PrintWords Go.Proofs.YtgidipomfbikiaaDoorW.PrintLast Go.Proofs.YtgidipomfbikiaaDoorW.PrintMore Go.Proofs.YtgidipomfbikiaaDoor.P Go.Proofs.YtgidipomfbikiaaDoor.NumM
set_option linter.unusedVariables false
set_option linter.unusedSimpArgs false
theorem tl (s : ByteArray) : s.toList = s.data.toList:=ByteArray.toList_eq ..
end Go.Proofs.YtgidipomfbikiaaDoor.Cnf
