import Derived.Test.YtfcmpnajokjaaaaProfTrim
import Derived.Test.YtfcmpnajokjaaaaPureProfileTells
import Derived.Test.YtfcmpnajokjaaaaP0
import Derived.Test.YtfcmpnajokjaaaaP14
namespace Go.Proofs.Ytfcmpnajokjaaaa.Pure
open Go.RowKit Go.Proofs.YtfcmpnajokjaaaaW.PrintWords Go.Proofs.YtfcmpnajokjaaaaW.PrintLast Go.Proofs.YtfcmpnajokjaaaaW.PrintMore Go.Proofs.Ytfcmpnajokjaaaa.P Go.Proofs.Ytfcmpnajokjaaaa.Prof
theorem trims_j1 (l o : List S39) (hl : l.length < 10000) (ho : o.length < 10000) : Ev (fun k => gangerlaw05_ProfileTrims.j1 k l l o false) true := by
  refine Ev.step (fun k => by rw [gangerlaw05_ProfileTrims.j1]) ?_
  simp only [Bool.false_eq_true, if_false]
  obtain ⟨w, hw⟩ := spoilt_ev o (by omega)
  refine Ev.bind hw ?_
  refine Ev.bind (same_self l (by omega)) ?_
  simp only [if_true]
  exact hk
theorem ProfileTrims : gangerlaw05_ProfileTrims.Pure := by
  intro l now later ⟨_, _⟩ _ _
  apply Ev.rounds (g := fun k => gangerlaw05_ProfileTrims.f k l now later)
  unfold gangerlaw05_ProfileTrims.f
  rw [many_f1]
  simp only [Option.bind_some]
  by_cases hm : l.length > 100
  · simp only [decide_eq_true hm, if_true]; exact hk
  simp only [decide_eq_false hm, Bool.false_eq_true, if_false]
  have hl : l.length < 10000 := by omega
  rw [copied_f l (by omega)]
  simp only [Option.bind_some]
  by_cases h : ¬ Valid l ∨ now > 1099511627776 ∨ ∃ x r, l = x :: r ∧ now < x.f0
  · obtain ⟨e, he, h1, h2⟩ := trim_no hl h
    refine Ev.bind h1 ?_
    refine Ev.bind h2 ?_
    refine Ev.bind (same_self [] (by simp)) ?_
    simp only [if_true]
    refine Ev.step (fun k => by rw [gangerlaw05_ProfileTrims.j0]) ?_
    simp only [bne_self_eq_false, Bool.false_eq_true, if_false, if_neg he]
    exact trims_j1 l [] hl (by simp)
  · have hv : Valid l := Classical.byContradiction fun hn => h (.inl hn)
    obtain ⟨x, r, rfl⟩ := hv.cons
    have h0 : x.f0 ≤ now := by
      rcases Decidable.em (now < x.f0) with c | c
      · exact absurd (.inr (.inr ⟨x, r, rfl, c⟩)) h
      · omega
    have h1 : now ≤ 1099511627776 := by
      rcases Decidable.em (now > 1099511627776) with c | c
      · exact absurd (.inr (.inl c)) h
      · omega
    obtain ⟨o, e1, e2, hvo, hlo, hs⟩ := trim_ok hl hv h0 h1
    refine Ev.bind e1 ?_
    refine Ev.bind e2 ?_
    refine Ev.bind (same_self o (by omega)) ?_
    simp only [if_true]
    refine Ev.step (fun k => by rw [gangerlaw05_ProfileTrims.j0]) ?_
    simp only [bne_self_eq_false, Bool.false_eq_true, if_false, if_true]
    by_cases c : later ≥ now
    · simp only [if_pos c]
      refine Ev.bind (at_ok (by omega) hvo later) ?_
      refine Ev.bind (at_ok (by omega) hv later) ?_
      rw [hs later c]
      simp only [bne_self_eq_false]
      exact trims_j1 _ o hl (by omega)
    · simp only [if_neg c]
      exact trims_j1 _ o hl (by omega)
end Go.Proofs.Ytfcmpnajokjaaaa.Pure
