import Derived.Test.YtfcmpnajokjaaaaProfChange
import Derived.Test.YtfcmpnajokjaaaaProfMore
import Derived.Test.YtfcmpnajokjaaaaP0
import Derived.Test.YtfcmpnajokjaaaaP5
import Derived.Test.YtfcmpnajokjaaaaP10
import Derived.Test.YtfcmpnajokjaaaaP11
namespace Go.Proofs.Ytfcmpnajokjaaaa.Pure
open Go.RowKit Go.Proofs.YtfcmpnajokjaaaaW.PrintWords Go.Proofs.YtfcmpnajokjaaaaW.PrintLast Go.Proofs.YtfcmpnajokjaaaaW.PrintMore Go.Proofs.Ytfcmpnajokjaaaa.P Go.Proofs.Ytfcmpnajokjaaaa.Prof
theorem ProfileChanges : gangerlaw05_ProfileChanges.Pure := by
  intro l f len n ⟨_, _⟩ _ _ _
  apply Ev.rounds (g := fun k => gangerlaw05_ProfileChanges.f k l f len n)
  unfold gangerlaw05_ProfileChanges.f
  rw [many_f1]
  simp only [Option.bind_some]
  by_cases hm : l.length > 100
  · simp only [decide_eq_true hm, if_true]; exact hk
  simp only [decide_eq_false hm, Bool.false_eq_true, if_false]
  have hl : l.length < 5000 := by omega
  rw [copied_f l (by omega)]
  simp only [Option.bind_some]
  obtain ⟨v, h1, h2, h3⟩ : ∃ v : List S39 × Int, Ev (fun k => profile_Change.f k l f len n) v ∧ Ev (fun k => gangerref05_Change.f k l f len n) v ∧ v.1.length ≤ l.length + 2 := by
    by_cases hv : Valid l
    · obtain ⟨x, r, rfl⟩ := hv.cons
      obtain ⟨v, h1, h2, h3, _⟩ := change_spec hl hv f len n
      exact ⟨v, h1, h2, h3⟩
    · obtain ⟨h1, h2⟩ := change_inv hl hv f len n
      exact ⟨_, h1, h2, by simp⟩
  refine Ev.bind h1 ?_
  refine Ev.bind h2 ?_
  refine Ev.bind (same_self v.1 (by omega)) ?_
  simp only [if_true, bne_self_eq_false]
  refine Ev.step (fun k => by rw [gangerlaw05_ProfileChanges.j0]) ?_
  simp only [Bool.false_eq_true, if_false]
  obtain ⟨w, hw⟩ := spoilt_ev v.1 (by omega)
  refine Ev.bind hw ?_
  refine Ev.bind (same_self l (by omega)) ?_
  simp only [if_true]
  exact hk
end Go.Proofs.Ytfcmpnajokjaaaa.Pure
