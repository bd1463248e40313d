import Derived.Test.YtjgfdilikbeofaaDoorClkPrint
import Derived.Test.YtjgfdilikbeofaaDoorP0
import Derived.Test.YtjgfdilikbeofaaDoorP4
namespace Go.Proofs.YtjgfdilikbeofaaDoor.Pure
open Go.RowKit Go.Proofs.YtjgfdilikbeofaaDoorW.PrintWords Go.Proofs.YtjgfdilikbeofaaDoorW.PrintLast Go.Proofs.YtjgfdilikbeofaaDoorW.PrintMore Go.Proofs.YtjgfdilikbeofaaDoor.P Go.Proofs.YtjgfdilikbeofaaDoor.Clk
set_option linter.unusedVariables false
set_option linter.unusedSimpArgs false
theorem ClockParses : gangerlaw07_ClockParses.Pure := by
  intro a0 _
  refine Ev.rounds ?_
  unfold gangerlaw07_ClockParses.f
  obtain ⟨l, rfl⟩ : ∃ l, a0 = mk l := ⟨_, mk_self a0⟩
  by_cases h : ((mk l).size : Int) > 300
  · simp only [if_pos h]; exact hk
  · simp only [if_neg h]
    have hl : l.length ≤ 1000000 := by rw [mk_size] at h; omega
    refine Ev.bind (parse_eq l hl) ?_
    refine Ev.bind (refParse_eq l hl) ?_
    simp only [if_true]
    exact hk
end Go.Proofs.YtjgfdilikbeofaaDoor.Pure
