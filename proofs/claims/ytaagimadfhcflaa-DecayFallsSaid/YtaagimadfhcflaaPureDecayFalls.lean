/- DecayFalls: later it counts for no more, at first it is as it was; more used counts for no less, at any time. Conditions: none beyond an int's range. -/
import Derived.Test.YtaagimadfhcflaaDecayMono
import Derived.Test.YtaagimadfhcflaaP0
import Derived.Test.YtaagimadfhcflaaP8
namespace Go.Proofs.Ytaagimadfhcflaa.Pure
open Go.RowKit Go.Proofs.YtaagimadfhcflaaW.PrintWords Go.Proofs.YtaagimadfhcflaaW.PrintLast Go.Proofs.YtaagimadfhcflaaW.PrintMore Go.Proofs.Ytaagimadfhcflaa.P Go.Proofs.Ytaagimadfhcflaa.NumM
set_option linter.unusedVariables false
theorem falls_j1 (n m t h a : Int) (hn : 0 ≤ n ∧ n ≤ 9223372036854775807) (hm : fits m) (hb : ¬ bad t h) (ha : a = after n t h) : Ev (fun k => gangerlaw02_DecayFalls.j1 k n m t h a false) true := by
  have hk := hk
  refine Ev.step (fun k => by rw [gangerlaw02_DecayFalls.j1]) ?_
  simp only [Bool.false_eq_true, if_false]
  unfold fits at hm
  by_cases hz : m < 0
  · refine Ev.bind (after_neg m t h hz) ?_
    simp only [show ¬ ((2 : Int) = 0) by decide, if_false]
    exact hk
  · refine Ev.bind (after_ev m t h (by omega) hb) ?_
    simp only [if_true]
    have h1 : m ≥ n → ¬ after m t h < a := fun c => by have := after_mono_n hb hn.1 c; omega
    have h2 : m ≤ n → ¬ after m t h > a := fun c => by have := after_mono_n hb (show 0 ≤ m by omega) c; omega
    by_cases c1 : m ≥ n
    · simp only [if_pos c1, if_neg (h1 c1)]
      by_cases c2 : m ≤ n
      · simp only [if_pos c2, if_neg (h2 c2)]; exact hk
      · simp only [if_neg c2]; exact hk
    · simp only [if_neg c1]
      by_cases c2 : m ≤ n
      · simp only [if_pos c2, if_neg (h2 c2)]; exact hk
      · simp only [if_neg c2]; exact hk
theorem DecayFalls : gangerlaw02_DecayFalls.Pure := by
  intro n m t later h hn hm ht hl hh
  have hn := wf64 hn
  have hm := wf64 hm
  have ht := wf64 ht
  have hl := wf64 hl
  have hh := wf64 hh
  have hk := hk
  apply Ev.rounds (g := fun k => gangerlaw02_DecayFalls.f k n m t later h)
  unfold gangerlaw02_DecayFalls.f
  by_cases hb : bad t h
  · refine Ev.bind (after_no n t h hb) ?_
    simp only [show ¬ ((2 : Int) = 0) by decide, if_false]
    exact hk
  · by_cases hz : n < 0
    · refine Ev.bind (after_neg n t h hz) ?_
      simp only [show ¬ ((2 : Int) = 0) by decide, if_false]
      exact hk
    · refine Ev.bind (after_ev n t h (by omega) hb) ?_
      simp only [if_true]
      have hb0 : ¬ bad 0 h := by unfold bad at *; omega
      refine Ev.bind (after_ev n 0 h (by omega) hb0) ?_
      have hbd := after_bd hb (show 0 ≤ n by omega)
      rw [after_zero (by unfold bad at hb; omega)]
      simp only [if_true, if_neg (show ¬ after n t h > n by omega)]
      rw [decide_eq_false (show ¬ after n t h < 0 by omega)]
      refine Ev.step (fun k => by rw [gangerlaw02_DecayFalls.j0]) ?_
      simp only [Bool.false_eq_true, if_false]
      have hj := falls_j1 n m t h _ (by omega) hm hb rfl
      by_cases hb2 : bad later h
      · refine Ev.bind (after_no n later h hb2) ?_
        simp only [show ¬ ((2 : Int) = 0) by decide, if_false]
        exact hj
      · refine Ev.bind (after_ev n later h (by omega) hb2) ?_
        simp only [if_true]
        have h1 : later ≥ t → ¬ after n later h > after n t h := fun c => by have := after_mono_t hb hb2 (show 0 ≤ n ∧ n ≤ 9223372036854775807 by omega) c; omega
        have h2 : later ≤ t → ¬ after n later h < after n t h := fun c => by have := after_mono_t hb2 hb (show 0 ≤ n ∧ n ≤ 9223372036854775807 by omega) c; omega
        by_cases c1 : later ≥ t
        · simp only [if_pos c1, if_neg (h1 c1)]
          by_cases c2 : later ≤ t
          · simp only [if_pos c2]; rw [decide_eq_false (h2 c2)]; exact hj
          · simp only [if_neg c2]; exact hj
        · simp only [if_neg c1]
          by_cases c2 : later ≤ t
          · simp only [if_pos c2]; rw [decide_eq_false (h2 c2)]; exact hj
          · simp only [if_neg c2]; exact hj
end Go.Proofs.Ytaagimadfhcflaa.Pure
