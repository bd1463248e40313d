/- cut to what one law reaches -/
import Derived.Test.YtgidipomfbikiaaDoorTwP0
namespace Go.Proofs.YtgidipomfbikiaaDoor.NumM
open Go.RowKit Go.Proofs.YtgidipomfbikiaaDoorW.PrintWords Go.Proofs.YtgidipomfbikiaaDoorW.PrintLast Go.Proofs.YtgidipomfbikiaaDoorW.PrintMore Go.Proofs.YtgidipomfbikiaaDoor.P
set_option linter.unusedVariables false
theorem w64 {x : Int} (h : -9223372036854775808≤x∧x≤9223372036854775807) : wrap64 x = x:=by unfold wrap64;omega
theorem u64 {x : Int} (h : 0≤x∧x < 18446744073709551616) : IntKind.u64.wrap x = x:=by rw [IntKind.wrap_u64];omega
/-- a number that an int holds -/
def fits (v : Int) : Prop:=-9223372036854775808≤v∧v≤9223372036854775807
instance (v : Int) : Decidable (fits v):=inferInstanceAs (Decidable (_∧_))
end Go.Proofs.YtgidipomfbikiaaDoor.NumM
