/- cut to what one law reaches -/
import Derived.Test.YtfccdngejfnmkaaDoorQnP0
import Derived.Test.YtfccdngejfnmkaaDoorQnP3
import Derived.Test.YtfccdngejfnmkaaDoorQnP4
namespace Go.Proofs.YtfccdngejfnmkaaDoor.NumM
open Go.RowKit Go.Proofs.YtfccdngejfnmkaaDoorW.PrintWords Go.Proofs.YtfccdngejfnmkaaDoorW.PrintLast Go.Proofs.YtfccdngejfnmkaaDoorW.PrintMore Go.Proofs.YtfccdngejfnmkaaDoor.P
set_option linter.unusedVariables false
theorem w64 {x : Int} (h : -9223372036854775808 ≤ x ∧ x ≤ 9223372036854775807) : wrap64 x = x := by unfold wrap64; omega
theorem u64 {x : Int} (h : 0 ≤ x ∧ x < 18446744073709551616) : IntKind.u64.wrap x = x := by rw [IntKind.wrap_u64]; omega
/-- a number that an int holds -/
def fits (v : Int) : Prop := -9223372036854775808 ≤ v ∧ v ≤ 9223372036854775807
instance (v : Int) : Decidable (fits v) := inferInstanceAs (Decidable (_ ∧ _))
theorem mul64_f (a b : Int) (ha : 0 ≤ a ∧ a < 18446744073709551616) (hb : 0 ≤ b ∧ b < 18446744073709551616) : bits_Mul64.f a b = some (a * b / 18446744073709551616, a * b % 18446744073709551616) := by
  unfold bits_Mul64.f
  simp only [if_pos ha.1, if_pos ha.2, if_pos hb.1, if_pos hb.2]
end Go.Proofs.YtfccdngejfnmkaaDoor.NumM
