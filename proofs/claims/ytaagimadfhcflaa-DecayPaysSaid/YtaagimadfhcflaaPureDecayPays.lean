/- DecayPays: of two who used the same, whoever used it later counts for no less; charges add up, as long as no time goes by. Conditions: none beyond the kinds' ranges. -/
import Derived.Test.YtaagimadfhcflaaDecayMono
import Derived.Test.YtaagimadfhcflaaP0
import Derived.Test.YtaagimadfhcflaaP4
import Derived.Test.YtaagimadfhcflaaP9
namespace Go.Proofs.Ytaagimadfhcflaa.Pure
open Go.RowKit Go.Proofs.YtaagimadfhcflaaW.PrintWords Go.Proofs.YtaagimadfhcflaaW.PrintLast Go.Proofs.YtaagimadfhcflaaW.PrintMore Go.Proofs.Ytaagimadfhcflaa.P Go.Proofs.Ytaagimadfhcflaa.NumM
set_option linter.unusedVariables false
theorem wfu32 {a : Int} (h : (Lit.int .u32 a).wf = true) : 0 ≤ a ∧ a ≤ 4294967295 := by
  simpa [Lit.wf, IntKind.min, IntKind.max, IntKind.signed, IntKind.bits] using h
theorem DecayPays : gangerlaw02_DecayPays.Pure := by
  intro n a b later h hn ha hb hl hh
  have hn := wfu32 hn
  have ha := wfu32 ha
  have hb := wfu32 hb
  have hl := wfu32 hl
  have hh := wf64 hh
  have hk := hk
  apply Ev.rounds (g := fun k => gangerlaw02_DecayPays.f k n a b later h)
  unfold gangerlaw02_DecayPays.f
  have hno : Ev (fun k => gangerlaw02_DecayPays.j0 k n a b later h true) true := by
    refine Ev.step (fun k => by rw [gangerlaw02_DecayPays.j0]) ?_
    simp only [if_true]; exact hk
  by_cases h1 : h < 1
  · simp only [if_pos h1]; exact hno
  · simp only [if_neg h1]
    by_cases h2 : h > 1099511627776
    · rw [decide_eq_true h2]; exact hno
    · rw [decide_eq_false h2]
      refine Ev.step (fun k => by rw [gangerlaw02_DecayPays.j0]) ?_
      rw [w64 (x := n) (by omega), w64 (x := a) (by omega), w64 (x := b) (by omega), w64 (x := later) (by omega), w64 (x := a + b) (by omega), w64 (x := a + b + later) (by omega), w64 (x := n + b) (by omega)]
      simp only [Bool.false_eq_true, if_false]
      have z0 : ∀ t, after 0 t h = 0 := by intro t; unfold after; rw [Int.zero_ediv, Int.zero_mul, Int.zero_ediv]
      have hch : ∀ (m at' now more : Int), 0 ≤ m → m ≤ 8589934592 → 0 ≤ at' → at' ≤ now → now ≤ 17179869184 → 0 ≤ more → more ≤ 8589934592 → Ev (fun k => decay_Charge.f k m at' now more h) (after m (now - at') h + more, now, 0) := by
        intro m at' now more g1 g2 g3 g4 g5 g6 g7
        have hc := charge_ev m at' now more h (by unfold fits; omega) (by unfold fits; omega) (by unfold fits; omega) (by unfold fits; omega)
        have hbd : ¬ bad (now - at') h := by unfold bad; omega
        rw [if_neg (show ¬ cbad m at' now more by unfold cbad; omega), if_neg hbd] at hc
        have hab := after_bd hbd g1
        have e : cutoff (after m (now - at') h + more) = after m (now - at') h + more := by unfold cutoff; rw [if_neg (by omega), if_neg (by omega)]
        rw [e] at hc
        exact hc
      refine Ev.bind (hch 0 0 a n (by omega) (by omega) (by omega) (by omega) (by omega) (by omega) (by omega)) ?_
      refine Ev.bind (hch 0 0 (a + b) n (by omega) (by omega) (by omega) (by omega) (by omega) (by omega) (by omega)) ?_
      simp only [z0, Int.zero_add]
      refine Ev.bind (hch n a (a + b + later) 0 (by omega) (by omega) (by omega) (by omega) (by omega) (by omega) (by omega)) ?_
      refine Ev.bind (hch n (a + b) (a + b + later) 0 (by omega) (by omega) (by omega) (by omega) (by omega) (by omega) (by omega)) ?_
      refine Ev.bind (hch n a a b (by omega) (by omega) (by omega) (by omega) (by omega) (by omega) (by omega)) ?_
      refine Ev.bind (hch 0 0 a (n + b) (by omega) (by omega) (by omega) (by omega) (by omega) (by omega) (by omega)) ?_
      have hle := after_mono_t (n := n) (t := a + b + later - (a + b)) (t' := a + b + later - a) (h := h) (by unfold bad; omega) (by unfold bad; omega) (by omega) (by omega)
      have e1 : after n (a - a) h = n := by rw [Int.sub_self]; exact after_zero (by omega)
      simp only [z0, e1, Int.zero_add, if_true, if_pos (show after n (a + b + later - a) h + 0 ≤ after n (a + b + later - (a + b)) h + 0 by omega), beq_self_eq_true, Bool.and_self]
      exact hk
end Go.Proofs.Ytaagimadfhcflaa.Pure
