/- cut to what one law reaches -/
import Derived.Test.YtakdneopmojjdaaDoorBkP0
import Derived.Test.YtakdneopmojjdaaDoorBkP7
namespace Go.Proofs.YtakdneopmojjdaaDoor.NumM
open Go.RowKit Go.Proofs.YtakdneopmojjdaaDoorW.PrintWords Go.Proofs.YtakdneopmojjdaaDoorW.PrintLast Go.Proofs.YtakdneopmojjdaaDoorW.PrintMore Go.Proofs.YtakdneopmojjdaaDoor.P
set_option linter.unusedVariables false
theorem w64 {x : Int} (h : -9223372036854775808≤x∧x≤9223372036854775807) : wrap64 x = x:=by unfold wrap64;omega
theorem u64 {x : Int} (h : 0≤x∧x < 18446744073709551616) : IntKind.u64.wrap x = x:=by rw [IntKind.wrap_u64];omega
/-- a number that an int holds -/
def fits (v : Int) : Prop:=-9223372036854775808≤v∧v≤9223372036854775807
instance (v : Int) : Decidable (fits v):=inferInstanceAs (Decidable (_∧_))
/-- a sum, or that there is none -/
theorem add_f (a b : Int) (ha : -9223372036854775808≤a∧a≤9223372036854775807) (hb : -9223372036854775808≤b∧b≤9223372036854775807) :
    num_Add.f a b = some (if fits (a + b) then (a + b,0) else (0,10)):=by
  unfold num_Add.f
  by_cases h : fits (a + b)
  · rw [w64 h,if_pos h];unfold fits at h
    by_cases c : b > 0
    · rw [if_neg];simp [c];omega
    · by_cases z : b = 0
      · subst z;simp
      · rw [if_neg];simp [c];omega
  · rw [if_neg h];unfold fits at h
    by_cases c : b > 0
    · rw [if_pos,if_neg (by omega)];unfold wrap64;simp [c];omega
    · rw [if_pos,if_neg (by omega)];unfold wrap64;simp [c];omega
/-- from some number of rounds on -/
theorem ev_at {α : Type} {g : Nat→Option α} {r : α} (n : Nat) (h : ∀ k,g (k + n) = some r) : Ev g r :=
  ⟨n,fun k hk=>by obtain ⟨j,rfl⟩ : ∃ j,k = j + n:=⟨k - n,by omega⟩;exact h j⟩
/-- cut off at the ends -/
def cutoff (v : Int) : Int:=if v < -9223372036854775808 then -9223372036854775808 else if v > 9223372036854775807 then 9223372036854775807 else v
end Go.Proofs.YtakdneopmojjdaaDoor.NumM
