/- cut to what one law reaches -/
import Derived.Test.YtakdneopmojjdaaDoorBfP0
import Derived.Test.YtakdneopmojjdaaDoorBfP7
namespace Go.Proofs.YtakdneopmojjdaaDoor.NumM
open Go.RowKit Go.Proofs.YtakdneopmojjdaaDoorW.PrintWords Go.Proofs.YtakdneopmojjdaaDoorW.PrintLast Go.Proofs.YtakdneopmojjdaaDoorW.PrintMore Go.Proofs.YtakdneopmojjdaaDoor.P
set_option linter.unusedVariables false
theorem wf64 {a : Int} (h : (Lit.int .i64 a).wf = true) : -9223372036854775808≤a∧a≤9223372036854775807:=by
  simpa [Lit.wf,IntKind.min,IntKind.max,IntKind.signed,IntKind.bits] using h
theorem w64 {x : Int} (h : -9223372036854775808≤x∧x≤9223372036854775807) : wrap64 x = x:=by unfold wrap64;omega
theorem u64 {x : Int} (h : 0≤x∧x < 18446744073709551616) : IntKind.u64.wrap x = x:=by rw [IntKind.wrap_u64];omega
/-- a number that an int holds -/
def fits (v : Int) : Prop:=-9223372036854775808≤v∧v≤9223372036854775807
instance (v : Int) : Decidable (fits v):=inferInstanceAs (Decidable (_∧_))
/-- a sum, or that there is none -/
theorem add_f (a b : Int) (ha : -9223372036854775808≤a∧a≤9223372036854775807) (hb : -9223372036854775808≤b∧b≤9223372036854775807) :
    num_Add.f a b = some (if fits (a + b) then (a + b,0) else (0,10)):=by
  unfold num_Add.f
  by_cases h : fits (a + b)
  · rw [w64 h,if_pos h];unfold fits at h
    by_cases c : b > 0
    · rw [if_neg];simp [c];omega
    · by_cases z : b = 0
      · subst z;simp
      · rw [if_neg];simp [c];omega
  · rw [if_neg h];unfold fits at h
    by_cases c : b > 0
    · rw [if_pos,if_neg (by omega)];unfold wrap64;simp [c];omega
    · rw [if_pos,if_neg (by omega)];unfold wrap64;simp [c];omega
/-- cut off at the ends -/
def cutoff (v : Int) : Int:=if v < -9223372036854775808 then -9223372036854775808 else if v > 9223372036854775807 then 9223372036854775807 else v
theorem mul64_f (a b : Int) (ha : 0≤a∧a < 18446744073709551616) (hb : 0≤b∧b < 18446744073709551616) : bits_Mul64.f a b = some (a * b / 18446744073709551616,a * b % 18446744073709551616):=by
  unfold bits_Mul64.f
  simp only [if_pos ha.1,if_pos ha.2,if_pos hb.1,if_pos hb.2]
end Go.Proofs.YtakdneopmojjdaaDoor.NumM
