/- DecayAfters: what any use counts for after any ticks, and until when, is what the reference says. Conditions: none beyond an int's range. -/
import Derived.Test.YtaagimadfhcflaaDecayRef
import Derived.Test.YtaagimadfhcflaaP0
import Derived.Test.YtaagimadfhcflaaP3
import Derived.Test.YtaagimadfhcflaaP6
namespace Go.Proofs.Ytaagimadfhcflaa.Pure
open Go.RowKit Go.Proofs.YtaagimadfhcflaaW.PrintWords Go.Proofs.YtaagimadfhcflaaW.PrintLast Go.Proofs.YtaagimadfhcflaaW.PrintMore Go.Proofs.Ytaagimadfhcflaa.P Go.Proofs.Ytaagimadfhcflaa.NumM
set_option linter.unusedVariables false
theorem after_all (n t h : Int) (hn : fits n) : Ev (fun k => decay_After.f k n t h) (if bad t h ∨ n < 0 then (0, 2) else (after n t h, 0)) := by
  by_cases hb : bad t h
  · rw [if_pos (.inl hb)]; exact after_no n t h hb
  · by_cases hz : n < 0
    · rw [if_pos (.inr hz)]; exact after_neg n t h hz
    · rw [if_neg (fun c => c.elim hb hz)]; unfold fits at hn; exact after_ev n t h (by omega) hb
theorem DecayAfters : gangerlaw02_DecayAfters.Pure := by
  intro n t h hn ht hh
  have hn := wf64 hn
  have ht := wf64 ht
  have hh := wf64 hh
  apply Ev.rounds (g := fun k => gangerlaw02_DecayAfters.f k n t h)
  unfold gangerlaw02_DecayAfters.f
  refine Ev.bind (after_all n t h hn) ?_
  refine Ev.bind (refafter_ev n t h hn ht hh) ?_
  refine Ev.bind (until_ev n h (by omega)) ?_
  refine Ev.bind (refuntil_ev n h (by omega)) ?_
  simp only [if_true]
  exact hk
end Go.Proofs.Ytaagimadfhcflaa.Pure
