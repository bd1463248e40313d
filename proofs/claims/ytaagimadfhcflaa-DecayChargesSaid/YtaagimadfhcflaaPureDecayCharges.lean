/- DecayCharges: what any use is charged with, and what it is then, is what the reference says. Conditions: none beyond an int's range. -/
import Derived.Test.YtaagimadfhcflaaDecayRef
import Derived.Test.YtaagimadfhcflaaP0
import Derived.Test.YtaagimadfhcflaaP7
namespace Go.Proofs.Ytaagimadfhcflaa.Pure
open Go.RowKit Go.Proofs.YtaagimadfhcflaaW.PrintWords Go.Proofs.YtaagimadfhcflaaW.PrintLast Go.Proofs.YtaagimadfhcflaaW.PrintMore Go.Proofs.Ytaagimadfhcflaa.P Go.Proofs.Ytaagimadfhcflaa.NumM
set_option linter.unusedVariables false
theorem refcharge_ev (n a now more h : Int) (hn : fits n) (ha : fits a) (hnow : fits now) (hm : fits more) (hh : fits h) :
    Ev (fun k => gangerref02_Charge.f k n a now more h) (if cbad n a now more then (0, 0, 2) else if bad (now - a) h then (0, 0, 2) else (cutoff (after n (now - a) h + more), now, 0)) := by
  unfold gangerref02_Charge.f
  have hno : Ev (fun k => gangerref02_Charge.j0 k now more h true n a) (0, 0, 2) := by
    refine Ev.step (fun k => by rw [gangerref02_Charge.j0]) ?_
    simp only [if_true]; exact Ev.now _
  have hn' := hn; have hm' := hm
  unfold fits at hn ha hnow hm
  by_cases h2 : a < 0
  · simp only [if_pos h2, if_pos (show cbad n a now more from .inr (.inl h2))]; exact hno
  · simp only [if_neg h2]
    by_cases h3 : a > now
    · simp only [if_pos h3, if_pos (show cbad n a now more from .inr (.inr (.inl h3)))]; exact hno
    · simp only [if_neg h3]
      by_cases h4 : now > 1099511627776
      · simp only [if_pos h4, if_pos (show cbad n a now more from .inr (.inr (.inr (.inl h4))))]; exact hno
      · simp only [if_neg h4]
        by_cases h5 : more < 0
        · rw [decide_eq_true h5, if_pos (show cbad n a now more from .inr (.inr (.inr (.inr h5))))]; exact hno
        · rw [decide_eq_false h5]
          refine Ev.step (fun k => by rw [gangerref02_Charge.j0]) ?_
          simp only [Bool.false_eq_true, if_false]
          rw [w64 (x := now - a) (by omega)]
          refine Ev.bind (refafter_ev n (now - a) h hn' (by unfold fits; omega) hh) ?_
          by_cases h1 : n < 0
          · simp only [if_pos (show bad (now - a) h ∨ n < 0 from .inr h1), if_pos (show cbad n a now more from .inl h1)]
            exact Ev.now _
          · have hc : ¬ cbad n a now more := by unfold cbad; omega
            rw [if_neg hc]
            by_cases hb : bad (now - a) h
            · simp only [if_pos (show bad (now - a) h ∨ n < 0 from .inl hb), if_pos hb]
              exact Ev.now _
            · simp only [if_neg (show ¬ (bad (now - a) h ∨ n < 0) from fun c => c.elim hb h1), if_neg hb, if_true]
              have hab := after_bd hb (show 0 ≤ n by omega)
              have hfa : fits (after n (now - a) h) := by unfold fits; omega
              simp only [of_f _ hfa, of_f _ hm', Option.bind_some]
              obtain ⟨m, p, l, ep, p0, p1, l0, l1, hs⟩ := Plus_f (decide (after n (now - a) h < 0)) (decide (more < 0)) 0 (after n (now - a) h).natAbs 0 more.natAbs (by omega) (by omega) (by omega) (by omega)
              rw [sv_of, sv_of] at hs
              simp only [ep, Option.bind_some]
              have he := end_ev m p l p0 l0 l1
              rw [hs] at he
              exact Ev.bind he (Ev.now _)
theorem DecayCharges : gangerlaw02_DecayCharges.Pure := by
  intro n a now more h hu hnow hm hh
  have hn := wf64 hu.1
  have ha := wf64 hu.2
  have hnow := wf64 hnow
  have hm := wf64 hm
  have hh := wf64 hh
  apply Ev.rounds (g := fun k => gangerlaw02_DecayCharges.f k n a now more h)
  unfold gangerlaw02_DecayCharges.f
  refine Ev.bind (charge_ev n a now more h hn ha hnow hm) ?_
  refine Ev.bind (refcharge_ev n a now more h hn ha hnow hm hh) ?_
  simp only [beq_self_eq_true, Bool.and_self, if_true]
  exact hk
end Go.Proofs.Ytaagimadfhcflaa.Pure
