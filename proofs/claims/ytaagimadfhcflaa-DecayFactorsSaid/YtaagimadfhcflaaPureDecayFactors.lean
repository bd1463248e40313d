/- DecayFactors: of any ticks and any half-life the whole half-lives, and the table's number, are what the reference says. Conditions: none beyond an int's range. -/
import Derived.Test.YtaagimadfhcflaaDecayCore
import Derived.Test.YtaagimadfhcflaaP0
import Derived.Test.YtaagimadfhcflaaP4
namespace Go.Proofs.Ytaagimadfhcflaa.Pure
open Go.RowKit Go.Proofs.YtaagimadfhcflaaW.PrintWords Go.Proofs.YtaagimadfhcflaaW.PrintLast Go.Proofs.YtaagimadfhcflaaW.PrintMore Go.Proofs.Ytaagimadfhcflaa.P Go.Proofs.Ytaagimadfhcflaa.NumM
set_option linter.unusedVariables false
theorem DecayFactors : gangerlaw02_DecayFactors.Pure := by
  intro t h ht hh
  have ht := wf64 ht
  have hh := wf64 hh
  apply Ev.rounds (g := fun k => gangerlaw02_DecayFactors.f k t h)
  unfold gangerlaw02_DecayFactors.f
  simp only [factor_f, Option.bind_some]
  refine Ev.bind (reffactor_ev t h hh) ?_
  simp only [if_true]
  exact hk
end Go.Proofs.Ytaagimadfhcflaa.Pure
