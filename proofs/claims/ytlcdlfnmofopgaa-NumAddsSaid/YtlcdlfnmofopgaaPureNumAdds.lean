/- NumAdds: of any two numbers the sum and the difference are what the reference says. Conditions: none beyond an int's range. -/
import Derived.Test.YtlcdlfnmofopgaaNumCore
import Derived.Test.YtlcdlfnmofopgaaP0
import Derived.Test.YtlcdlfnmofopgaaP9
namespace Go.Proofs.Ytlcdlfnmofopgaa.Pure
open Go.RowKit Go.Proofs.YtlcdlfnmofopgaaW.PrintWords Go.Proofs.YtlcdlfnmofopgaaW.PrintLast Go.Proofs.YtlcdlfnmofopgaaW.PrintMore Go.Proofs.Ytlcdlfnmofopgaa.P Go.Proofs.Ytlcdlfnmofopgaa.NumM
set_option linter.unusedVariables false

theorem NumAdds : gangerlaw01_NumAdds.Pure := by
  intro a b ha hb
  have ha := wf64 ha
  have hb := wf64 hb
  apply Ev.rounds (g := fun k => gangerlaw01_NumAdds.f k a b)
  unfold gangerlaw01_NumAdds.f
  simp only [add_f a b ha hb, sub_f a b ha hb, Option.bind_some]
  refine Ev.bind (refadd_ev a b ha hb) ?_
  refine Ev.bind (refsub_ev a b ha hb) ?_
  simp only [if_true]
  exact Ev.bind known_ev (Ev.now _)

end Go.Proofs.Ytlcdlfnmofopgaa.Pure
