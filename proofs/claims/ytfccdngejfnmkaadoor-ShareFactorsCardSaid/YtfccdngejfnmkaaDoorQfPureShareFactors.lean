/- cut to what one law reaches -/
import Derived.Test.YtfccdngejfnmkaaDoorQfShrRefFac
import Derived.Test.YtfccdngejfnmkaaDoorQfP0
import Derived.Test.YtfccdngejfnmkaaDoorQfP16
namespace Go.Proofs.YtfccdngejfnmkaaDoor.Pure
open Go.RowKit Go.Proofs.YtfccdngejfnmkaaDoorW.PrintWords Go.Proofs.YtfccdngejfnmkaaDoorW.PrintLast Go.Proofs.YtfccdngejfnmkaaDoorW.PrintMore Go.Proofs.YtfccdngejfnmkaaDoor.P Go.Proofs.YtfccdngejfnmkaaDoor.NumM Go.Proofs.YtfccdngejfnmkaaDoor.Shr
set_option linter.unusedVariables false
set_option linter.unusedSimpArgs false
theorem ShareFactors : gangerlaw11_ShareFactors.Pure := by
  intro l own _ hw
  refine Ev.rounds ?_
  unfold gangerlaw11_ShareFactors.f
  obtain ⟨b, hb, hf⟩ := many_ev l own
  refine Ev.bind hb ?_
  cases b with
  | true => refine ev_pos rfl ?_; exact hk
  | false =>
    have hm := hf rfl
    have hs : Small l own := ⟨hm.1, hm.2.1, hm.2.2, fun x hx => (wf64 (hw.2 x hx)).2⟩
    refine ev_neg (by simp) (Ev.bind (parts_ev hs) (Ev.bind (refparts_ev hs) (Ev.bind (factors_ev hs) (Ev.bind (reffactors_ev hs) ?_))))
    have hlen : ((if rightE l own = 0 then (parts (sums l own), (0 : Int)) else ([], rightE l own)).1).length ≤ 1000 ∧ ((if rightE l own = 0 then (factors l own, (0 : Int)) else ([], rightE l own)).1).length ≤ 1000 := by
      by_cases g : rightE l own = 0
      · have ho := (rightE_ok hs.2.2.2).1 g
        rw [if_pos g, if_pos g]
        have p1 := (parts_unit ho).1
        have n1 := (norms_facts ho.1).1
        have f1 : (factors l own).length = l.length := by
          unfold factors
          rw [facs_len _ _ (by rw [n1, p1]), n1]
        constructor
        · show (parts (sums l own)).length ≤ 1000
          omega
        · show (factors l own).length ≤ 1000
          omega
      · rw [if_neg g, if_neg g]; simp
    generalize (if rightE l own = 0 then (parts (sums l own), (0 : Int)) else ([], rightE l own)) = r at *
    generalize (if rightE l own = 0 then (factors l own, (0 : Int)) else ([], rightE l own)) = q at *
    refine Ev.bind (same_ev _ hlen.1) (ev_pos rfl (ev_pos rfl (Ev.bind (same_ev _ hlen.2) (ev_pos rfl (ev_pos rfl ?_)))))
    exact hk
end Go.Proofs.YtfccdngejfnmkaaDoor.Pure
