import Derived.Test.YtfcmpnajokjaaaaProfFit
import Derived.Test.YtfcmpnajokjaaaaPureProfileTells
import Derived.Test.YtfcmpnajokjaaaaP0
import Derived.Test.YtfcmpnajokjaaaaP3
import Derived.Test.YtfcmpnajokjaaaaP8
namespace Go.Proofs.Ytfcmpnajokjaaaa.Pure
open Go.RowKit Go.Proofs.YtfcmpnajokjaaaaW.PrintWords Go.Proofs.YtfcmpnajokjaaaaW.PrintLast Go.Proofs.YtfcmpnajokjaaaaW.PrintMore Go.Proofs.Ytfcmpnajokjaaaa.P Go.Proofs.Ytfcmpnajokjaaaa.Prof
theorem ProfileFits : gangerlaw05_ProfileFits.Pure := by
  intro l f len n ⟨_, _⟩ _ _ _
  apply Ev.rounds (g := fun k => gangerlaw05_ProfileFits.f k l f len n)
  unfold gangerlaw05_ProfileFits.f
  rw [many_f1]
  simp only [Option.bind_some]
  by_cases hm : l.length > 100
  · simp only [decide_eq_true hm, if_true]; exact hk
  simp only [decide_eq_false hm, Bool.false_eq_true, if_false]
  have hl : l.length < 10000 := by omega
  obtain ⟨v, h1, h2⟩ : ∃ v, Ev (fun k => profile_Fit.f k l f len n) v ∧ Ev (fun k => gangerref05_Fit.f k l f len n) v := by
    by_cases h : ¬ Valid l ∨ argBad f len n
    · obtain ⟨e, _, h1, h2⟩ := fit_no hl h
      exact ⟨_, h1, h2⟩
    · have hv : Valid l := Classical.byContradiction fun hn => h (.inl hn)
      obtain ⟨x, r, rfl⟩ := hv.cons
      obtain ⟨v, h1, h2, _⟩ := fit_ok hl hv (fun hb => h (.inr hb))
      exact ⟨v, h1, h2⟩
  refine Ev.bind h1 ?_
  refine Ev.bind h2 ?_
  simp only [if_true]
  exact hk
end Go.Proofs.Ytfcmpnajokjaaaa.Pure
