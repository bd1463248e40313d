import Derived.Test.YtpkococfmohmiaaDoorIdxRText
import Derived.Test.YtpkococfmohmiaaDoorIdxSame
import Derived.Test.YtpkococfmohmiaaDoorP0
import Derived.Test.YtpkococfmohmiaaDoorP10
namespace Go.Proofs.YtpkococfmohmiaaDoor.Pure
open Go.RowKit Go.Proofs.YtpkococfmohmiaaDoorW.PrintWords Go.Proofs.YtpkococfmohmiaaDoorW.PrintLast Go.Proofs.YtpkococfmohmiaaDoorW.PrintMore Go.Proofs.YtpkococfmohmiaaDoor.P Go.Proofs.YtpkococfmohmiaaDoor.Idx
set_option linter.unusedVariables false
set_option linter.unusedSimpArgs false
theorem IndexesPrints : gangerlaw06_IndexesPrints.Pure := by
  intro l m _
  refine Ev.rounds ?_
  unfold gangerlaw06_IndexesPrints.f
  by_cases h : (l.length : Int) > 3000
  · simp only [if_pos h]; exact hk
  · simp only [if_neg h]
    refine ev_pos (by simp; omega) ?_
    rw [List.nil_append]
    refine Ev.bind (Ev.now _) ?_
    refine Ev.bind (check_ok l m (by omega)) ?_
    refine Ev.bind (print_eq l m (by omega)) ?_
    refine Ev.bind (rprint_eq l m (by omega)) ?_
    refine Ev.bind (rcheck_ok l m (by omega)) ?_
    refine ev_pos rfl (ev_pos rfl (ev_pos rfl (Ev.bind (same_refl l m (by omega)) (ev_pos rfl ?_))))
    exact hk
end Go.Proofs.YtpkococfmohmiaaDoor.Pure
