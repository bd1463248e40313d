/- DecayEnds: at the time that Until tells it counts for nothing, and a half-life ahead of it for something, if it did at all; charged then, it is what it was charged with. Conditions: none beyond an int's range. -/
import Derived.Test.YtaagimadfhcflaaDecayMono
import Derived.Test.YtaagimadfhcflaaP0
import Derived.Test.YtaagimadfhcflaaP9
namespace Go.Proofs.Ytaagimadfhcflaa.Pure
open Go.RowKit Go.Proofs.YtaagimadfhcflaaW.PrintWords Go.Proofs.YtaagimadfhcflaaW.PrintLast Go.Proofs.YtaagimadfhcflaaW.PrintMore Go.Proofs.Ytaagimadfhcflaa.P Go.Proofs.Ytaagimadfhcflaa.NumM
set_option linter.unusedVariables false
theorem DecayEnds : gangerlaw02_DecayEnds.Pure := by
  intro n h more hn hh hm
  have hn := wf64 hn
  have hh := wf64 hh
  have hm := wf64 hm
  have hk := hk
  apply Ev.rounds (g := fun k => gangerlaw02_DecayEnds.f k n h more)
  unfold gangerlaw02_DecayEnds.f
  have hno : ∀ t, Ev (fun k => gangerlaw02_DecayEnds.j0 k n h more t true) true := by
    intro t
    refine Ev.step (fun k => by rw [gangerlaw02_DecayEnds.j0]) ?_
    simp only [if_true]; exact hk
  refine Ev.bind (until_ev n h (by omega)) ?_
  by_cases hu : ubad n h
  · simp only [if_pos hu, show ¬ ((2 : Int) = 0) by decide, if_false]; exact hno _
  · simp only [if_neg hu, if_true]
    have hn' : 0 ≤ n ∧ n ≤ 9223372036854775807 := by unfold ubad at hu; omega
    have hbl := bl_spec n hn'
    have hmul := bl_mul hn' hu
    by_cases h3 : bl n * h > 1099511627776
    · rw [decide_eq_true h3]; exact hno _
    · rw [decide_eq_false h3]
      have hh1 : 1 ≤ h := by unfold ubad at hu; omega
      have b1 : ¬ bad (bl n * h) h := by unfold ubad at hu; unfold bad; omega
      have hz : after n (bl n * h) h = 0 := by
        rw [after_times hh1]
        have : mn (bl n) 63 = bl n := by unfold mn; rw [if_neg (by omega)]
        rw [this]
        exact Int.ediv_eq_zero_of_lt hn'.1 hbl.2.2.1
      refine Ev.step (fun k => by rw [gangerlaw02_DecayEnds.j0]) ?_
      simp only [Bool.false_eq_true, if_false]
      refine Ev.bind (after_ev n _ h hn' b1) ?_
      rw [hz]
      simp only [if_true, bne_self_eq_false]
      refine Ev.step (fun k => by rw [gangerlaw02_DecayEnds.j1]) ?_
      simp only [Bool.false_eq_true, if_false]
      have hj : Ev (fun k => gangerlaw02_DecayEnds.j2 k n h more (bl n * h)) true := by
        refine Ev.step (fun k => by rw [gangerlaw02_DecayEnds.j2]) ?_
        by_cases h5 : more < 0
        · simp only [if_pos h5]; exact hk
        · simp only [if_neg h5]
          refine Ev.bind (charge_ev n 0 (bl n * h) more h hn (by unfold fits; omega) (by unfold fits; omega) hm) ?_
          have hc : ¬ cbad n 0 (bl n * h) more := by unfold cbad; omega
          rw [Int.sub_zero, if_neg hc, if_neg b1, hz, Int.zero_add]
          have e : cutoff more = more := by unfold cutoff; rw [if_neg (by omega), if_neg (by omega)]
          rw [e]
          simp only [if_true]
          exact hk
      by_cases h6 : n > 0
      · simp only [if_pos h6]
        have hp := hbl.2.2.2 h6
        have e1 : bl n * h - h = (bl n - 1) * h := by rw [Int.sub_mul, Int.one_mul]
        have hge : 0 ≤ (bl n - 1) * h := Int.mul_nonneg (by omega) (by omega)
        rw [w64 (x := bl n * h - h) (by omega), e1]
        have b2 : ¬ bad ((bl n - 1) * h) h := by unfold ubad at hu; unfold bad; omega
        refine Ev.bind (after_ev n _ h hn' b2) ?_
        have hnz : after n ((bl n - 1) * h) h ≠ 0 := by
          rw [after_times hh1]
          have : mn (bl n - 1) 63 = bl n - 1 := by unfold mn; rw [if_neg (by omega)]
          rw [this]
          have h7 : (2 : Int) ^ (bl n - 1).toNat ≤ n := by
            have := hp.2
            rwa [show (bl n).toNat - 1 = (bl n - 1).toNat by omega] at this
          have h8 : 1 ≤ n / 2 ^ (bl n - 1).toNat := by
            rw [Int.le_ediv_iff_mul_le (pow_pos _)]; omega
          omega
        simp only [if_true, if_neg hnz]
        exact hj
      · simp only [if_neg h6]; exact hj
end Go.Proofs.Ytaagimadfhcflaa.Pure
