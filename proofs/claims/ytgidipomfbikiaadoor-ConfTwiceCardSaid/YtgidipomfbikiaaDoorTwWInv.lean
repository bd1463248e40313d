/- cut to what one law reaches -/
import Derived.Test.YtgidipomfbikiaaDoorTwWTab
-- PRINTED BY print.sh 35421559b90ae4d0a3588c463048766b98c2df88dd9212a6774a882060cdf62d: not written by this session
namespace Go.Proofs.YtgidipomfbikiaaDoorW.PrintLast
def up (b : Nat→Bool) (i : Nat) : Nat→Bool:=fun j=>if j = i then true else b j
end Go.Proofs.YtgidipomfbikiaaDoorW.PrintLast
