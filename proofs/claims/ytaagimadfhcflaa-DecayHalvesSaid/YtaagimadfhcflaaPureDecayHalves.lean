/- DecayHalves: after a whole half-life it counts for half, downwards; two times, of which one is whole half-lives, may be gone through one behind the other. Conditions: none beyond an int's range. -/
import Derived.Test.YtaagimadfhcflaaDecayMono
import Derived.Test.YtaagimadfhcflaaP0
import Derived.Test.YtaagimadfhcflaaP8
namespace Go.Proofs.Ytaagimadfhcflaa.Pure
open Go.RowKit Go.Proofs.YtaagimadfhcflaaW.PrintWords Go.Proofs.YtaagimadfhcflaaW.PrintLast Go.Proofs.YtaagimadfhcflaaW.PrintMore Go.Proofs.Ytaagimadfhcflaa.P Go.Proofs.Ytaagimadfhcflaa.NumM
set_option linter.unusedVariables false
theorem DecayHalves : gangerlaw02_DecayHalves.Pure := by
  intro n kk rest h hn hkk hr hh
  have hn := wf64 hn
  have hkk := wf64 hkk
  have hr := wf64 hr
  have hh := wf64 hh
  have hk := hk
  apply Ev.rounds (g := fun k => gangerlaw02_DecayHalves.f k n kk rest h)
  unfold gangerlaw02_DecayHalves.f
  have hno : Ev (fun k => gangerlaw02_DecayHalves.j0 k n kk rest h true) true := by
    refine Ev.step (fun k => by rw [gangerlaw02_DecayHalves.j0]) ?_
    simp only [if_true]; exact hk
  by_cases h1 : n < 0
  · simp only [if_pos h1]; exact hno
  · simp only [if_neg h1]
    by_cases h2 : h < 1
    · simp only [if_pos h2]; exact hno
    · simp only [if_neg h2]
      by_cases h3 : h > 1000000
      · rw [decide_eq_true h3]; exact hno
      · rw [decide_eq_false h3]
        refine Ev.step (fun k => by rw [gangerlaw02_DecayHalves.j0]) ?_
        have hu0 : 0 ≤ IntKind.u64.wrap kk := by rw [IntKind.wrap_u64]; omega
        have hu1 : 0 ≤ IntKind.u64.wrap rest := by rw [IntKind.wrap_u64]; omega
        rw [u64 (x := h) (by omega), Int.tmod_eq_emod_of_nonneg hu0, Int.tmod_eq_emod_of_nonneg hu1]
        have hw : 0 ≤ IntKind.u64.wrap kk % 70 ∧ IntKind.u64.wrap kk % 70 < 70 := by omega
        have hl : 0 ≤ IntKind.u64.wrap rest % h ∧ IntKind.u64.wrap rest % h < h := ⟨Int.emod_nonneg _ (by omega), Int.emod_lt_of_pos _ (by omega)⟩
        generalize IntKind.u64.wrap kk % 70 = w at *
        generalize IntKind.u64.wrap rest % h = l at *
        have hwh : 0 ≤ w * h ∧ w * h ≤ 70 * 1000000 := ⟨Int.mul_nonneg (by omega) (by omega), Int.mul_le_mul (by omega) (by omega) (by omega) (by omega)⟩
        rw [w64 (x := w) (by omega), w64 (x := w * h) (by omega), w64 (x := l) (by omega), w64 (x := w * h + l) (by omega)]
        simp only [Bool.false_eq_true, if_false, if_neg (show ¬ h = 0 by omega)]
        have b1 : ¬ bad h h := by unfold bad; omega
        have b2 : ¬ bad (w * h) h := by unfold bad; omega
        have b3 : ¬ bad l h := by unfold bad; omega
        have b4 : ¬ bad (w * h + l) h := by unfold bad; omega
        have hN0 : 0 ≤ n / 2 ^ (mn w 63).toNat := Int.ediv_nonneg (by omega) (Int.le_of_lt (pow_pos _))
        have hN1 : n / 2 ^ (mn w 63).toNat ≤ n := Int.ediv_le_self _ (by omega)
        refine Ev.bind (after_ev n h h (by omega) b1) ?_
        refine Ev.bind (after_ev n (w * h) h (by omega) b2) ?_
        simp only [after_times (n := n) (w := w) (show 1 ≤ h by omega)]
        refine Ev.bind (after_ev (n / 2 ^ (mn w 63).toNat) l h (by omega) b3) ?_
        refine Ev.bind (after_ev n (w * h + l) h (by omega) b4) ?_
        have e1 : after n h h = n / 2 := by
          have := after_times (n := n) (w := 1) (show 1 ≤ h by omega)
          rw [Int.one_mul] at this
          rw [this]; unfold mn; simp
        have e2 : after (n / 2 ^ (mn w 63).toNat) l h = after n (w * h + l) h := by
          rw [after_whole (by omega) hl]
          have := after_whole (n := n / 2 ^ (mn w 63).toNat) (w := 0) (show 1 ≤ h by omega) hl
          rw [Int.zero_mul, Int.zero_add] at this
          rw [this]
          have e0 : n / 2 ^ (mn w 63).toNat / 2 ^ (mn 0 63).toNat = n / 2 ^ (mn w 63).toNat := by
            have : (mn 0 63).toNat = 0 := by decide
            rw [this, Int.pow_zero, Int.ediv_one]
          rw [e0]
        rw [Int.tdiv_eq_ediv_of_nonneg (by omega), w64 (x := n / 2) (by omega), e1, e2]
        simp only [if_true]
        exact hk
end Go.Proofs.Ytaagimadfhcflaa.Pure
