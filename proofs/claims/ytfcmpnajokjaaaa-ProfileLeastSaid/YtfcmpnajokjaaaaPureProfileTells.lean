import Derived.Test.YtfcmpnajokjaaaaProfLeast
import Derived.Test.YtfcmpnajokjaaaaP0
import Derived.Test.YtfcmpnajokjaaaaP2
import Derived.Test.YtfcmpnajokjaaaaP6
import Derived.Test.YtfcmpnajokjaaaaP7
import Derived.Test.YtfcmpnajokjaaaaP8
import Derived.Test.YtfcmpnajokjaaaaP15
namespace Go.Proofs.Ytfcmpnajokjaaaa.Pure
open Go.RowKit Go.Proofs.YtfcmpnajokjaaaaW.PrintWords Go.Proofs.YtfcmpnajokjaaaaW.PrintLast Go.Proofs.YtfcmpnajokjaaaaW.PrintMore Go.Proofs.Ytfcmpnajokjaaaa.P Go.Proofs.Ytfcmpnajokjaaaa.Prof
theorem many_f1 (a : List S39) : gangerlaw05_many.f a [] = some (decide (a.length > 100)) := by
  unfold gangerlaw05_many.f
  by_cases h : (a.length : Int) > 100
  · rw [if_pos h, decide_eq_true (show a.length > 100 by omega)]
  · rw [if_neg h, decide_eq_false (show ¬ a.length > 100 by omega)]; rfl
theorem copied_f (a : List S39) (h : a.length < 1000) : gangerlaw05_copied.f a = some a := by
  unfold gangerlaw05_copied.f
  rw [if_pos (by simp; omega), List.nil_append]
theorem new_both (a b : Int) : ∃ l e, Ev (fun k => profile_New.f k a b) (l, e) ∧ Ev (fun k => gangerref05_New.f k a b) (l, e) ∧ l.length ≤ 1 := by
  unfold profile_New.f gangerref05_New.f
  simp only [Option.bind_some]
  by_cases hv : Valid [(⟨a, b⟩ : S39)]
  · refine ⟨[⟨a, b⟩], 0, ?_, ?_, by simp⟩
    · refine Ev.bind (check_ok (by simp) hv) ?_
      simp only [if_true]; exact Ev.now _
    · refine Ev.bind (rcheck_ok (by simp) hv) ?_
      simp only [if_true]; exact Ev.now _
  · refine ⟨[], 50, ?_, ?_, by simp⟩
    · refine Ev.bind (check_no (by simp) hv) ?_
      simp only [show ¬ (50 : Int) = 0 by decide, if_false]; exact Ev.now _
    · refine Ev.bind (rcheck_no (by simp) hv) ?_
      simp only [show ¬ (50 : Int) = 0 by decide, if_false]; exact Ev.now _
theorem ProfileTells : gangerlaw05_ProfileTells.Pure := by
  intro l t len ⟨_, _⟩ _ _
  apply Ev.rounds (g := fun k => gangerlaw05_ProfileTells.f k l t len)
  unfold gangerlaw05_ProfileTells.f
  rw [many_f1]
  simp only [Option.bind_some]
  by_cases hm : l.length > 100
  · simp only [decide_eq_true hm, if_true]; exact hk
  simp only [decide_eq_false hm, Bool.false_eq_true, if_false]
  have hl : l.length < 1099511627776 := by omega
  rw [copied_f l (by omega)]
  simp only [Option.bind_some]
  obtain ⟨c, hc1, hc2⟩ : ∃ c, Ev (fun k => profile_Check.f k l) c ∧ Ev (fun k => gangerref05_Check.f k l) c := by
    by_cases hv : Valid l
    · exact ⟨0, check_ok hl hv, rcheck_ok hl hv⟩
    · exact ⟨50, check_no hl hv, rcheck_no hl hv⟩
  obtain ⟨a, ha1, ha2⟩ : ∃ c, Ev (fun k => profile_At.f k l t) c ∧ Ev (fun k => gangerref05_At.f k l t) c := by
    by_cases hv : Valid l
    · exact ⟨_, at_ok hl hv t, rat_ok hl hv t⟩
    · exact ⟨0, at_no hl hv t, rat_no hl hv t⟩
  obtain ⟨b, hb1, hb2⟩ := least_both hl t len
  obtain ⟨q, e, hn1, hn2, hq⟩ := new_both t len
  refine Ev.bind hc1 ?_
  refine Ev.bind ha1 ?_
  refine Ev.bind hb1 ?_
  refine Ev.bind hn1 ?_
  refine Ev.bind hn2 ?_
  refine Ev.bind hc2 ?_
  simp only [if_true]
  refine Ev.bind ha2 ?_
  simp only [if_true]
  refine Ev.bind hb2 ?_
  simp only [if_true]
  refine Ev.bind (same_self q (by omega)) ?_
  simp only [if_true]
  refine Ev.bind (same_self l hl) ?_
  simp only [if_true]
  exact hk
end Go.Proofs.Ytfcmpnajokjaaaa.Pure
