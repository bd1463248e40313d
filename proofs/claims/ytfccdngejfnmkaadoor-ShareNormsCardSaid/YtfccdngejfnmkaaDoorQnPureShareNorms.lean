/- cut to what one law reaches -/
import Derived.Test.YtfccdngejfnmkaaDoorQnShrRefNorm
import Derived.Test.YtfccdngejfnmkaaDoorQnShrSame
import Derived.Test.YtfccdngejfnmkaaDoorQnP0
import Derived.Test.YtfccdngejfnmkaaDoorQnP14
namespace Go.Proofs.YtfccdngejfnmkaaDoor.Pure
open Go.RowKit Go.Proofs.YtfccdngejfnmkaaDoorW.PrintWords Go.Proofs.YtfccdngejfnmkaaDoorW.PrintLast Go.Proofs.YtfccdngejfnmkaaDoorW.PrintMore Go.Proofs.YtfccdngejfnmkaaDoor.P Go.Proofs.YtfccdngejfnmkaaDoor.NumM Go.Proofs.YtfccdngejfnmkaaDoor.Shr
set_option linter.unusedVariables false
set_option linter.unusedSimpArgs false
theorem ShareNorms : gangerlaw11_ShareNorms.Pure := by
  intro l _
  refine Ev.rounds ?_
  unfold gangerlaw11_ShareNorms.f
  obtain ⟨b, hb, hf⟩ := many_ev l []
  refine Ev.bind hb ?_
  cases b with
  | true => refine ev_pos rfl ?_; exact hk
  | false =>
    have hm := hf rfl
    refine ev_neg (by simp) (Ev.bind (norms_ev l hm.1 hm.2.2) (Ev.bind (refnorms_ev l hm.1 hm.2.2) ?_))
    have hlen : ((if TOK l = true then (norms l, (0 : Int)) else ([], 100)).1).length ≤ 1000 := by
      by_cases g : TOK l = true
      · rw [if_pos g]
        have := (norms_facts g).1
        show (norms l).length ≤ 1000
        omega
      · rw [if_neg g]; simp
    generalize (if TOK l = true then (norms l, (0 : Int)) else ([], 100)) = r at *
    refine Ev.bind (same_ev _ hlen) (ev_pos rfl (ev_pos rfl ?_))
    exact hk
end Go.Proofs.YtfccdngejfnmkaaDoor.Pure
